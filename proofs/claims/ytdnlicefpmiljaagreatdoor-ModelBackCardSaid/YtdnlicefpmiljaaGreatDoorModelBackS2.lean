import Derived.Test.YtdnlicefpmiljaaGreatDoorModelBackS1
set_option linter.unusedVariables false
set_option maxRecDepth 100000
set_option maxHeartbeats 8000000
namespace Go.Proofs
open Go.AM
open IntKind (i64 u64 i32 u32 i16 u16 i8 u8)
def f172_l1 (a : List Int) (b : List Int) (go : (Int×Int×Int×Int) → Option (Int×Int×Int)) (v12:Int) (c0_0:Int) (c0_1:Int) (c0_2:Int) : Option (Int×Int×Int) :=
 bif (decide (v12 < (if (List.length b:Int) < (List.length a:Int) then (List.length b:Int) else (List.length a:Int)))) then
 guardF (0 ≤ v12 ∧ v12 < (List.length a:Int)) <|
 guardF (0 ≤ v12 ∧ v12 < (List.length b:Int)) <|
 bindF (f176 c0_0 c0_1 c0_2 (rd (0:Int) a v12) (rd (0:Int) b v12)) fun q5_8 =>
 go ((i64.wrap (v12 + (1:Int))),q5_8.1,q5_8.2.1,q5_8.2.2)
 else
 some (c0_0,c0_1,c0_2)
def f172 (a : List Int) (b : List Int) : Option Int :=
 bindF (loopF (fun go x=>f172_l1 a b go x.1 x.2.1 x.2.2.1 x.2.2.2) fuelN ((0:Int),(0:Int),(0:Int),(0:Int))) fun z1 =>
 bindF (f177 z1.1 z1.2.1 z1.2.2 (32:Int)) fun r2 =>
 some r2.1
def C172 : Con where
 X := (List Int)×(List Int)
 Y := Int
 e := 0
 args x := [.dat T6 x.1,.dat T6 x.2]
 hin x := []
 F x := f172 x.1 x.2
 ret y := [.dat T1 y]
 hout y := []
 nout := 0
theorem C172_vc (a : List Int) (b : List Int) (y:Int) (hF : f172 a b = some y) : VC Tryz.f172 C172 (a,b) y := by
 unfold f172 at hF
 refine OL (OL (OL (OL ?_)))
 obtain ⟨z1,hz1,hF⟩ := bindE hF
 refine loopI (Int×Int×Int×Int) (Int×Int×Int) (fun x=>⟨[(0,.dat T6 a),(1,.dat T6 b),(5,P0 0 0),(11,.dat T1 (if (List.length b:Int) < (List.length a:Int) then (List.length b:Int) else (List.length a:Int))),(12,.dat T1 x.1)],[(0,.cells [(.d T1 x.2.1),(.d T1 x.2.2.1),(.d T10 x.2.2.2)])],1⟩) (fun z=>[(2,⟨[(5,P0 0 0)],[(0,.cells [(.d T1 z.1),(.d T1 z.2.1),(.d T10 z.2.2)])],1⟩)]) (loopF (fun go x=>f172_l1 a b go x.1 x.2.1 x.2.2.1 x.2.2.2)) fuelN ((0:Int),(0:Int),(0:Int),(0:Int)) z1 (AI hz1 (AI (E4 [(0,some 0)] (R5 (AI (AI rfl TV) (AI rfl TV)))) (AI (fun _ _ h=>loopZ h) (AI (fun m=>curI (fun v12=>curI (fun c0_0=>curI (fun c0_1=>fun c0_2 z hF=>?_)))) ?_))))
 ·have hF : f172_l1 a b (loopF (fun go x=>f172_l1 a b go x.1 x.2.1 x.2.2.1 x.2.2.2) m) v12 c0_0 c0_1 c0_2 = some z := hF
  unfold f172_l1 at hF
  refine OL (OL (condI hF (fun hF=>?_) (fun hF=>?_)))
  ·refine OL (OL (EI (.take 0 (.take 1 (.take 2 (.take 3 (.take 4 (.take 5 (.take 6 (.take 7 (.alt 8 .done .done))))))))) (EI [] (EI [] (AI rfl (guardI hF (fun hF=>?_)))))))
   refine guardI hF (fun hF=>?_)
   refine AI TV ?_
   obtain ⟨q5_8,hq5_8,hF⟩ := bindE hF
   refine OL (AI f176_in (callV0 (callI C176 (c0_0,c0_1,c0_2,(rd (0:Int) a v12),(rd (0:Int) b v12)) q5_8 [(0,some 0)] false C176_holds hq5_8 rfl rfl (R2 (AI (fun h=>nomatch h) (R2 (AI (AI rfl TV) (AI (AI rfl TV) (EI ((i64.wrap (v12 + (1:Int))),q5_8.1,q5_8.2.1,q5_8.2.2) (AI hF (E4 [(0,some 0)] (R5 (AI (AI rfl TV) (AI rfl TV))))))))))))))
  have hz := someE hF
  subst hz
  refine E4 [(0,some 0)] (AI rfl (AI (AI rfl TV) (AI rfl TV)))
 refine AI (OL ?_) TV
 obtain ⟨r2,hr2,hF⟩ := bindE hF
 refine OL (AI f177_in (callV0 (callI C177 (z1.1,z1.2.1,z1.2.2,(32:Int)) r2 [(0,some 0)] false C177_holds hr2 rfl rfl (AI rfl (AI (fun h=>nomatch h) (R2 (AI (AI rfl TV) (AI (AI rfl TV) ?_))))))))
 have hy := someE hF
 subst hy
 refine AI rfl (E4 [] (R2 (AI TV TV)))
theorem C172_holds : C172.Holds Tryz.prog 172 := holds_of_vc tab_ok mixed (fn := Tryz.f172) (by kernel_rfl) rfl C172 (fun x y hF=>C172_vc x.1 x.2 y hF)
theorem f172_in : InP 172 := ⟨Tryz.f172,by kernel_rfl,by kernel_rfl,by kernel_rfl⟩
def f141_j4 (a : (List Int)×(List Int)) (b : (List Int)×(List Int)) : Option Bool :=
 bindF (f91 (a.1,a.2)) fun r9 =>
 bif (!r9) then
 some true
 else
 bindF (f91 (b.1,b.2)) fun r10 =>
 some (!r10)
def f141_j5 (a : (List Int)×(List Int)) (b : (List Int)×(List Int)) : Option Bool :=
 bindF (f170 (a.1,a.2)) fun q3_1 =>
 bif (!q3_1) then
 some true
 else
 bindF (f170 (b.1,b.2)) fun q3_5 =>
 bif (!q3_5) then
 some true
 else
 guardF (0 ≤ (1:Int) ∧ (1:Int) < (List.length a.1:Int)) <|
 guardF (0 ≤ (0:Int) ∧ (0:Int) < (List.length b.1:Int)) <|
 some ((rd (0:Int) a.1 (1:Int)) != (rd (0:Int) b.1 (0:Int)))
def f141_j3 (a : (List Int)×(List Int)) (b : (List Int)×(List Int)) : Option (Sum Unit Int) :=
 bindF (f141_j4 a b) fun z8 =>
 bif z8 then
 some (Sum.inr (1:Int))
 else
 bindF (f141_j5 a b) fun z11 =>
 bif z11 then
 some (Sum.inr (4:Int))
 else
 some (Sum.inl ())
def f141_l9 (a : (List Int)×(List Int)) (b : (List Int)×(List Int)) (r12 : Int×(List Int)×(List Int)) (v74:Int) (go : (Int×(List Int)) → Option (List Int)) (v78:Int) (l5_2 : List Int) : Option (List Int) :=
 bif (decide (v78 < (rd (0:Int) b.1 (1:Int)))) then
 guardF (0 ≤ (i64.wrap (v74 * (rd (0:Int) a.1 (1:Int)))) ∧ (i64.wrap (v74 * (rd (0:Int) a.1 (1:Int)))) ≤ (i64.wrap ((i64.wrap (v74 + (1:Int))) * (rd (0:Int) a.1 (1:Int)))) ∧ (i64.wrap ((i64.wrap (v74 + (1:Int))) * (rd (0:Int) a.1 (1:Int)))) ≤ (List.length a.2:Int)) <|
 guardF (0 ≤ (i64.wrap (v78 * (rd (0:Int) a.1 (1:Int)))) ∧ (i64.wrap (v78 * (rd (0:Int) a.1 (1:Int)))) ≤ (i64.wrap ((i64.wrap (v78 + (1:Int))) * (rd (0:Int) a.1 (1:Int)))) ∧ (i64.wrap ((i64.wrap (v78 + (1:Int))) * (rd (0:Int) a.1 (1:Int)))) ≤ (List.length r12.2.2:Int)) <|
 bindF (f172 (List.drop (Int.toNat (i64.wrap (v74 * (rd (0:Int) a.1 (1:Int))))) (List.take (Int.toNat (i64.wrap ((i64.wrap (v74 + (1:Int))) * (rd (0:Int) a.1 (1:Int))))) a.2)) (List.drop (Int.toNat (i64.wrap (v78 * (rd (0:Int) a.1 (1:Int))))) (List.take (Int.toNat (i64.wrap ((i64.wrap (v78 + (1:Int))) * (rd (0:Int) a.1 (1:Int))))) r12.2.2))) fun q16_27 =>
 guardF (0 ≤ (i64.wrap ((i64.wrap (v74 * (rd (0:Int) b.1 (1:Int)))) + v78)) ∧ (i64.wrap ((i64.wrap (v74 * (rd (0:Int) b.1 (1:Int)))) + v78)) < (List.length l5_2:Int)) <|
 go ((i64.wrap (v78 + (1:Int))),(List.set l5_2 (Int.toNat (i64.wrap ((i64.wrap (v74 * (rd (0:Int) b.1 (1:Int)))) + v78))) q16_27))
 else
 some l5_2
def f141_l8 (a : (List Int)×(List Int)) (b : (List Int)×(List Int)) (r12 : Int×(List Int)×(List Int)) (go : (Int×(List Int)) → Option (List Int)) (v74:Int) (l5 : List Int) : Option (List Int) :=
 bif (decide (v74 < (rd (0:Int) a.1 (0:Int)))) then
 bindF (loopF (fun go x=>f141_l9 a b r12 v74 go x.1 x.2) fuelN ((0:Int),l5)) fun z16 =>
 go ((i64.wrap (v74 + (1:Int))),z16)
 else
 some l5
def f141 (a : (List Int)×(List Int)) (b : (List Int)×(List Int)) : Option (Int×(List Int)×(List Int)) :=
 bindF (f141_j3 a b) fun z6 =>
 sumF z6 (fun z6a =>
 guardF (0 ≤ (0:Int) ∧ (0:Int) < (List.length a.1:Int)) <|
 guardF (0 ≤ (1:Int) ∧ (1:Int) < (List.length a.1:Int)) <|
 guardF (0 ≤ (1:Int) ∧ (1:Int) < (List.length b.1:Int)) <|
 bindF (f171 ([(rd (0:Int) a.1 (0:Int)),(rd (0:Int) b.1 (1:Int))]) (0:Int)) fun q5_14 =>
 bif (q5_14.1 != (0:Int)) then
 some ((2:Int),[],[])
 else
 bindF (f144 (b.1,b.2)) fun r12 =>
 bindF (loopF (fun go x=>f141_l8 a b r12 go x.1 x.2) fuelN ((0:Int),q5_14.2.2)) fun z15 =>
 some ((0:Int),q5_14.2.1,z15)) (fun z6b =>
 some (z6b,[],[]))
def C141 : Con where
 X := ((List Int)×(List Int))×((List Int)×(List Int))
 Y := Int×(List Int)×(List Int)
 e := 0
 args x := [.dat T9 x.1,.dat T9 x.2]
 hin x := []
 F x := f141 x.1 x.2
 ret y := [.raw true [(.osl 0),(.osl 1)],.dat T1 y.1]
 hout y := [(0,.arr 3 T1 y.2.1),(1,.arr 57 T1 y.2.2)]
 nout := 2
theorem C141_vc (a : (List Int)×(List Int)) (b : (List Int)×(List Int)) (y : Int×(List Int)×(List Int)) (hF : f141 a b = some y) : VC Tryz.f141 C141 (a,b) y := by
 unfold f141 at hF
 refine OL ?_
 obtain ⟨z6,hz6,hF⟩ := bindE hF
 refine OQ ⟨Sum.elim (fun z6a=>[(0,⟨[(2,P0 0 0),(3,P0 1 0),(4,P0 2 0)],[(0,.cells [(.d T6 a.1),(.d T6 a.2)]),(1,.cells [(.d T6 b.1),(.d T6 b.2)]),(2,.cells [N0,N0])],3⟩)]) (fun z6b=>[(1,⟨[(4,P0 0 0),(5,.dat T1 z6b)],[(0,.cells [N0,N0])],1⟩)]) z6,?_,?_⟩
 ·have hF := hz6
  clear hz6
  unfold f141_j3 at hF
  obtain ⟨z8,hz8,hF⟩ := bindE hF
  refine OQ ⟨[(0,⟨[(2,P0 0 0),(3,P0 1 0),(4,P0 2 0),(15,.dat .bool z8)],[(0,.cells [(.d T6 a.1),(.d T6 a.2)]),(1,.cells [(.d T6 b.1),(.d T6 b.2)]),(2,.cells [N0,N0])],3⟩)],?_,?_⟩
  ·have hF := hz8
   clear hz8
   unfold f141_j4 at hF
   obtain ⟨r9,hr9,hF⟩ := bindE hF
   refine OL (AI f91_in (callV0 (callI C91 (a.1,a.2) r9 [] false C91_holds hr9 rfl rfl (R2 (AI (fun h=>nomatch h) (R2 (AI TV (AI TV (condN hF (fun hF=>?_) (fun hF=>?_))))))))))
   ·refine gdYF ?_
    obtain ⟨r10,hr10,hF⟩ := bindE hF
    refine OL (AI f91_in (callV0 (callI C91 (b.1,b.2) r10 [] false C91_holds hr10 rfl rfl (R2 (AI (fun h=>nomatch h) (R2 (AI TV (AI TV (gdYF (condF ?_))))))))))
    have hz := someE hF
    subst hz
    refine E4 [(0,some 0),(1,some 1),(2,some 2)] (R2 (AI (R3 TV) (R3 TV)))
   refine gdNF (gdNF (condT ?_))
   have hz := someE hF
   subst hz
   refine E4 [(0,some 0),(1,some 1),(2,some 2)] (R2 (AI (R3 TV) (R3 TV)))
  refine AI (condI hF (fun hF=>?_) (fun hF=>?_)) TV
  ·refine OL (OL ?_)
   have hz := someE hF
   subst hz
   refine E4 [(0,some 2)] (R2 (AI (AI rfl TV) (AI rfl TV)))
  obtain ⟨z11,hz11,hF⟩ := bindE hF
  refine OQ ⟨[(0,⟨[(2,P0 0 0),(3,P0 1 0),(4,P0 2 0),(25,.dat .bool z11)],[(0,.cells [(.d T6 a.1),(.d T6 a.2)]),(1,.cells [(.d T6 b.1),(.d T6 b.2)]),(2,.cells [N0,N0])],3⟩)],?_,?_⟩
  ·have hF := hz11
   clear hz11
   unfold f141_j5 at hF
   refine EI (.take 0 (.alt 1 (.take 2 (.take 3 (.take 4 (.alt 5 (.take 6 (.take 7 (.take 8 (.take 9 (.take 10 (.take 11 (.take 12 (.take 13 (.take 14 (.take 15 (.take 16 (.take 17 (.take 18 (.take 19 .done)))))))))))))) .done)))) .done)) (EI [] (EI [] (AI rfl (AI TV ?_))))
   obtain ⟨q3_1,hq3_1,hF⟩ := bindE hF
   refine OL (AI f170_in (callV0 (callI C170 (a.1,a.2) q3_1 [] false C170_holds hq3_1 rfl rfl (R2 (AI (fun h=>nomatch h) (R2 (AI TV (AI TV (condN hF (fun hF=>?_) (fun hF=>?_))))))))))
   ·refine AI TV (gdYF ?_)
    obtain ⟨q3_5,hq3_5,hF⟩ := bindE hF
    refine OL (AI f170_in (callV0 (callI C170 (b.1,b.2) q3_5 [] false C170_holds hq3_5 rfl rfl (R2 (AI (fun h=>nomatch h) (R2 (AI TV (AI TV (gdYF (condF (condN hF (fun hF=>?_) (fun hF=>?_))))))))))))
    ·refine gdYF (gdYF (guardI hF (fun hF=>?_)))
     refine gdYF (gdYF (gdYF (gdYF (guardI hF (fun hF=>?_)))))
     refine gdYF (gdYF (condF ?_))
     have hz := someE hF
     subst hz
     refine E4 [(0,some 0),(1,some 1),(2,some 2)] (R2 (AI (R3 TV) (R3 TV)))
    refine gdNF (gdNF (gdNF (gdNF (gdNF (gdNF (gdNF (gdNF (condT ?_))))))))
    have hz := someE hF
    subst hz
    refine E4 [(0,some 0),(1,some 1),(2,some 2)] (R2 (AI (R3 TV) (R3 TV)))
   refine AI TV (gdNF (gdNF (condT (gdNF (gdNF (gdNF (gdNF (gdNF (gdNF (gdNF (gdNF (gdNF (condT ?_)))))))))))))
   have hz := someE hF
   subst hz
   refine E4 [(0,some 0),(1,some 1),(2,some 2)] (R2 (AI (R3 TV) (R3 TV)))
  refine AI (condI hF (fun hF=>?_) (fun hF=>?_)) TV
  ·refine OL (OL ?_)
   have hz := someE hF
   subst hz
   refine E4 [(0,some 2)] (R2 (AI (AI rfl TV) (AI rfl TV)))
  have hz := someE hF
  subst hz
  refine E4 [(0,some 0),(1,some 1),(2,some 2)] (AI rfl (AI (R3 TV) (R3 TV)))
 rcases z6 with z6a | z6b
 ·dsimp only [sumF] at hF
  refine AI (OL (EI (.take 0 (.take 1 (.take 2 (.take 3 (.take 4 (.take 5 (.take 6 (.take 7 (.take 8 (.take 9 (.take 10 (.take 11 (.take 12 (.take 13 (.take 14 .done))))))))))))))) (EI [] (EI [] (AI rfl (guardI hF (fun hF=>?_))))))) TV
  refine guardI hF (fun hF=>?_)
  refine guardI hF (fun hF=>?_)
  refine OL (OL ?_)
  obtain ⟨q5_14,hq5_14,hF⟩ := bindE hF
  refine OL (AI f171_in (callV0 (callI C171 ([(rd (0:Int) a.1 (0:Int)),(rd (0:Int) b.1 (1:Int))],(0:Int)) q5_14 [] true C171_holds hq5_14 rfl rfl (R2 (AI (fun _=>rfl) (R2 (AI TV (AI TV (OL (OL (OL (condI hF (fun hF=>?_) (fun hF=>?_)))))))))))))
  ·refine OL (OL ?_)
   have hy := someE hF
   subst hy
   refine AI rfl (E4 [(0,none),(1,none)] (R2 (AI (AI rfl TV) (R2 TV))))
  refine OL ?_
  obtain ⟨r12,hr12,hF⟩ := bindE hF
  refine OL (AI f144_in (callV0 (callI C144 (b.1,b.2) r12 [] false C144_holds hr12 rfl rfl (R2 (AI (fun h=>nomatch h) (R2 (AI TV (AI TV (OL (OL (OL ?_)))))))))))
  obtain ⟨z15,hz15,hF⟩ := bindE hF
  refine loopI (Int×(List Int)) (List Int) (fun x=>⟨[(2,P0 0 0),(4,P0 1 0),(7,.dat T1 (rd (0:Int) a.1 (1:Int))),(8,.dat T1 (rd (0:Int) b.1 (1:Int))),(9,P0 2 0),(11,P0 3 0),(73,.dat T1 (rd (0:Int) a.1 (0:Int))),(74,.dat T1 x.1)],[(0,.cells [(.d T6 a.1),(.d T6 a.2)]),(1,.cells [N0,N0]),(2,.cells [(.osl 4),(.osl 5)]),(3,.cells [(.osl 6),(.d T6 r12.2.2)]),(4,.arr 3 T1 q5_14.2.1),(5,.arr 57 T1 x.2),(6,.arr 3 T1 r12.2.1)],7⟩) (fun z=>[(3,⟨[(4,P0 0 0),(9,P0 1 0)],[(0,.cells [N0,N0]),(1,.cells [(.osl 2),(.osl 3)]),(2,.arr 3 T1 q5_14.2.1),(3,.arr 57 T1 z)],4⟩)]) (loopF (fun go x=>f141_l8 a b r12 go x.1 x.2)) fuelN ((0:Int),q5_14.2.2) z15 (AI hz15 (AI (EI [] (EI [] (EI [] (EI [8] (EI [(0,some 0),(1,some 2),(2,some 6),(3,some 9),(4,some 4),(5,some 5),(6,some 7)] (R5 (AI (R4 TV) (R7 TV)))))))) (AI (fun _ _ h=>loopZ h) (AI (fun m=>curI (fun v74=>fun l5 z hF=>?_)) ?_))))
  ·have hF : f141_l8 a b r12 (loopF (fun go x=>f141_l8 a b r12 go x.1 x.2) m) v74 l5 = some z := hF
   unfold f141_l8 at hF
   refine OL (OL (condI hF (fun hF=>?_) (fun hF=>?_)))
   ·refine OL (OL (OL ?_))
    obtain ⟨z16,hz16,hF⟩ := bindE hF
    refine loopI (Int×(List Int)) (List Int) (fun x=>⟨[(2,P0 0 0),(4,P0 1 0),(7,.dat T1 (rd (0:Int) a.1 (1:Int))),(8,.dat T1 (rd (0:Int) b.1 (1:Int))),(9,P0 2 0),(11,P0 3 0),(13,.dat T1 v74),(73,.dat T1 (rd (0:Int) a.1 (0:Int))),(74,.dat T1 v74),(77,.dat T1 (rd (0:Int) b.1 (1:Int))),(78,.dat T1 x.1)],[(0,.cells [(.d T6 a.1),(.d T6 a.2)]),(1,.cells [N0,N0]),(2,.cells [(.osl 4),(.osl 5)]),(3,.cells [(.osl 6),(.d T6 r12.2.2)]),(4,.arr 3 T1 q5_14.2.1),(5,.arr 57 T1 x.2),(6,.arr 3 T1 r12.2.1)],7⟩) (fun z=>[(5,⟨[(2,P0 0 0),(4,P0 1 0),(7,.dat T1 (rd (0:Int) a.1 (1:Int))),(8,.dat T1 (rd (0:Int) b.1 (1:Int))),(9,P0 2 0),(11,P0 3 0),(73,.dat T1 (rd (0:Int) a.1 (0:Int))),(74,.dat T1 v74)],[(0,.cells [(.d T6 a.1),(.d T6 a.2)]),(1,.cells [N0,N0]),(2,.cells [(.osl 4),(.osl 5)]),(3,.cells [(.osl 6),(.d T6 r12.2.2)]),(4,.arr 3 T1 q5_14.2.1),(5,.arr 57 T1 z),(6,.arr 3 T1 r12.2.1)],7⟩)]) (loopF (fun go x=>f141_l9 a b r12 v74 go x.1 x.2)) fuelN ((0:Int),l5) z16 (AI hz16 (AI (E4 [(0,some 0),(1,some 1),(2,some 2),(3,some 3),(4,some 4),(5,some 5),(6,some 6)] (R8 (AI (R4 TV) (R7 TV)))) (AI (fun _ _ h=>loopZ h) (AI (fun m=>curI (fun v78=>fun l5_2 z hF=>?_)) ?_))))
    ·have hF : f141_l9 a b r12 v74 (loopF (fun go x=>f141_l9 a b r12 v74 go x.1 x.2) m) v78 l5_2 = some z := hF
     unfold f141_l9 at hF
     refine OL (OL (condI hF (fun hF=>?_) (fun hF=>?_)))
     ·refine OL (OL (EI (.take 0 (.take 1 (.take 2 (.take 3 (.take 4 (.take 5 (.take 6 (.take 7 (.take 8 (.take 9 (.take 10 (.take 11 (.take 12 (.take 13 (.take 14 (.take 15 (.take 16 (.take 17 (.take 18 (.take 19 (.take 20 (.take 21 (.take 22 (.take 23 (.take 24 (.take 25 (.alt 26 (.alt 27 (.take 28 (.alt 29 .done .done)) .done) .done))))))))))))))))))))))))))) (EI [] (EI [] (AI rfl (guardI hF (fun hF=>?_)))))))
      refine AI TV (guardI hF (fun hF=>?_))
      refine AI TV ?_
      obtain ⟨q16_27,hq16_27,hF⟩ := bindE hF
      refine OL (AI f172_in (callV0 (callI C172 ((List.drop (Int.toNat (i64.wrap (v74 * (rd (0:Int) a.1 (1:Int))))) (List.take (Int.toNat (i64.wrap ((i64.wrap (v74 + (1:Int))) * (rd (0:Int) a.1 (1:Int))))) a.2)),(List.drop (Int.toNat (i64.wrap (v78 * (rd (0:Int) a.1 (1:Int))))) (List.take (Int.toNat (i64.wrap ((i64.wrap (v78 + (1:Int))) * (rd (0:Int) a.1 (1:Int))))) r12.2.2))) q16_27 [] false C172_holds hq16_27 rfl rfl (R2 (AI (fun h=>nomatch h) (R2 (AI TV (AI TV (guardI hF (fun hF=>?_))))))))))
      refine AI TV (OL (EI ((i64.wrap (v78 + (1:Int))),(List.set l5_2 (Int.toNat (i64.wrap ((i64.wrap (v74 * (rd (0:Int) b.1 (1:Int)))) + v78))) q16_27)) (AI hF (E4 [(0,some 0),(1,some 1),(2,some 2),(3,some 3),(4,some 4),(5,some 5),(6,some 6)] (R8 (AI (R4 TV) (R7 TV)))))))
     have hz := someE hF
     subst hz
     refine E4 [(0,some 0),(1,some 1),(2,some 2),(3,some 3),(4,some 4),(5,some 5),(6,some 6)] (R5 (AI (R4 TV) (R7 TV)))
    refine AI (EI ((i64.wrap (v74 + (1:Int))),z16) (AI hF (E4 [(0,some 0),(1,some 1),(2,some 2),(3,some 3),(4,some 4),(5,some 5),(6,some 6)] (R5 (AI (R4 TV) (R7 TV)))))) TV
   have hz := someE hF
   subst hz
   refine E4 [(0,some 1),(1,some 2),(2,some 4),(3,some 5)] (AI rfl (AI (R2 TV) (R4 TV)))
  refine AI (OL (OL ?_)) TV
  have hy := someE hF
  subst hy
  refine AI rfl (E4 [(0,some 2),(1,some 3)] (R2 (AI (AI rfl TV) (R2 TV))))
 dsimp only [sumF] at hF
 refine AI ?_ TV
 have hy := someE hF
 subst hy
 refine AI rfl (E4 [(0,none),(1,none)] (R2 (AI (AI rfl TV) (R2 TV))))
theorem C141_holds : C141.Holds Tryz.prog 141 := holds_of_vc tab_ok mixed (fn := Tryz.f141) (by kernel_rfl) rfl C141 (fun x y hF=>C141_vc x.1 x.2 y hF)
theorem f141_in : InP 141 := ⟨Tryz.f141,by kernel_rfl,by kernel_rfl,by kernel_rfl⟩
def f173 (step:Int) : Option Bool :=
 bif (decide (step ≥ (1:Int))) then
 some (decide (step ≤ (64:Int)))
 else
 some false
def C173 : Con where
 X := Int
 Y := Bool
 e := 0
 args x := [.dat T1 x]
 hin x := []
 F x := f173 x
 ret y := [.dat .bool y]
 hout y := []
 nout := 0
theorem C173_vc (step:Int) (y : Bool) (hF : f173 step = some y) : VC Tryz.f173 C173 step y := by
 unfold f173 at hF
 refine OL (OL (condI hF (fun hF=>?_) (fun hF=>?_)))
 ·refine gdYT (condT ?_)
  have hy := someE hF
  subst hy
  refine AI rfl (E4 [] (R2 (AI TV TV)))
 refine gdNT (condF ?_)
 have hy := someE hF
 subst hy
 refine AI rfl (E4 [] (R2 (AI TV TV)))
theorem C173_holds : C173.Holds Tryz.prog 173 := holds_of_vc tab_ok mixed (fn := Tryz.f173) (by kernel_rfl) rfl C173 (fun x y hF=>C173_vc x y hF)
theorem f173_in : InP 173 := ⟨Tryz.f173,by kernel_rfl,by kernel_rfl,by kernel_rfl⟩
def f174 (long:Int) (wide:Int) (step:Int) : Option Int :=
 bif (decide (wide > long)) then
 some (0:Int)
 else
 guardF (step ≠ 0) <|
 some (i64.wrap ((i64.wrap (Int.tdiv (i64.wrap (long - wide)) step)) + (1:Int)))
def C174 : Con where
 X := Int×Int×Int
 Y := Int
 e := 0
 args x := [.dat T1 x.1,.dat T1 x.2.1,.dat T1 x.2.2]
 hin x := []
 F x := f174 x.1 x.2.1 x.2.2
 ret y := [.dat T1 y]
 hout y := []
 nout := 0
theorem C174_vc (long:Int) (wide:Int) (step:Int) (y:Int) (hF : f174 long wide step = some y) : VC Tryz.f174 C174 (long,wide,step) y := by
 unfold f174 at hF
 refine OL (OL (OL (condI hF (fun hF=>?_) (fun hF=>?_))))
 ·refine OL ?_
  have hy := someE hF
  subst hy
  refine AI rfl (E4 [] (R2 (AI TV TV)))
 refine OL (guardI hF (fun hF=>?_))
 have hy := someE hF
 subst hy
 refine AI rfl (E4 [] (R2 (AI TV TV)))
theorem C174_holds : C174.Holds Tryz.prog 174 := holds_of_vc tab_ok mixed (fn := Tryz.f174) (by kernel_rfl) rfl C174 (fun x y hF=>C174_vc x.1 x.2.1 x.2.2 y hF)
theorem f174_in : InP 174 := ⟨Tryz.f174,by kernel_rfl,by kernel_rfl,by kernel_rfl⟩
def f175 (d : List Int) : Option (Int×(List Int)×(List Int)) :=
 bindF (f171 d (0:Int)) fun r1 =>
 bif (r1.1 != (0:Int)) then
 some ((2:Int),[],[])
 else
 some ((0:Int),r1.2.1,r1.2.2)
def C175 : Con where
 X := List Int
 Y := Int×(List Int)×(List Int)
 e := 0
 args x := [.dat T6 x]
 hin x := []
 F x := f175 x
 ret y := [.raw true [(.osl 0),(.osl 1)],.dat T1 y.1]
 hout y := [(0,.arr 3 T1 y.2.1),(1,.arr 57 T1 y.2.2)]
 nout := 2
theorem C175_vc (d : List Int) (y : Int×(List Int)×(List Int)) (hF : f175 d = some y) : VC Tryz.f175 C175 d y := by
 unfold f175 at hF
 refine OL (OL ?_)
 obtain ⟨r1,hr1,hF⟩ := bindE hF
 refine OL (AI f171_in (callV0 (callI C171 (d,(0:Int)) r1 [] false C171_holds hr1 rfl rfl (R2 (AI (fun h=>nomatch h) (R2 (AI TV (AI TV (OL (OL (OL (condI hF (fun hF=>?_) (fun hF=>?_)))))))))))))
 ·refine OL (OL ?_)
  have hy := someE hF
  subst hy
  refine AI rfl (E4 [(0,none),(1,none)] (R2 (AI (AI rfl TV) (R2 TV))))
 refine OL (OL ?_)
 have hy := someE hF
 subst hy
 refine AI rfl (E4 [(0,some 1),(1,some 2)] (R2 (AI (AI rfl TV) (R2 TV))))
theorem C175_holds : C175.Holds Tryz.prog 175 := holds_of_vc tab_ok mixed (fn := Tryz.f175) (by kernel_rfl) rfl C175 (fun x y hF=>C175_vc x y hF)
theorem f175_in : InP 175 := ⟨Tryz.f175,by kernel_rfl,by kernel_rfl,by kernel_rfl⟩
def f142_j4 (a : (List Int)×(List Int)) (k : (List Int)×(List Int)) (step:Int) : Option Bool :=
 bindF (f91 (a.1,a.2)) fun r12 =>
 bif (!r12) then
 some true
 else
 bindF (f91 (k.1,k.2)) fun r13 =>
 bif (!r13) then
 some true
 else
 bindF (f173 step) fun r14 =>
 some (!r14)
def f142_j5 (a : (List Int)×(List Int)) (k : (List Int)×(List Int)) : Option Bool :=
 bif ((List.length a.1:Int) != (2:Int)) then
 some true
 else
 bif ((List.length k.1:Int) != (3:Int)) then
 some true
 else
 guardF (0 ≤ (1:Int) ∧ (1:Int) < (List.length k.1:Int)) <|
 guardF (0 ≤ (0:Int) ∧ (0:Int) < (List.length a.1:Int)) <|
 bif ((rd (0:Int) k.1 (1:Int)) != (rd (0:Int) a.1 (0:Int))) then
 some true
 else
 guardF (0 ≤ (2:Int) ∧ (2:Int) < (List.length k.1:Int)) <|
 guardF (0 ≤ (1:Int) ∧ (1:Int) < (List.length a.1:Int)) <|
 some (decide ((rd (0:Int) k.1 (2:Int)) > (rd (0:Int) a.1 (1:Int))))
def f142_j3 (a : (List Int)×(List Int)) (k : (List Int)×(List Int)) (step:Int) : Option (Sum Unit Int) :=
 bindF (f142_j4 a k step) fun z11 =>
 bif z11 then
 some (Sum.inr (1:Int))
 else
 bindF (f142_j5 a k) fun z15 =>
 bif z15 then
 some (Sum.inr (4:Int))
 else
 some (Sum.inl ())
def f142_l18 (a : (List Int)×(List Int)) (k : (List Int)×(List Int)) (step:Int) (q5_14:Int) (v102:Int) (v112:Int) (go : (Int×Int×Int×Int) → Option (Int×Int×Int)) (v116:Int) (c4_0_2:Int) (c4_1_2:Int) (c4_2_2:Int) : Option (Int×Int×Int) :=
 bif (decide (v116 < (rd (0:Int) k.1 (2:Int)))) then
 guardF (0 ≤ (i64.wrap ((i64.wrap ((i64.wrap (v112 * (rd (0:Int) a.1 (1:Int)))) + (i64.wrap ((Int.tmod v102 q5_14) * step)))) + v116)) ∧ (i64.wrap ((i64.wrap ((i64.wrap (v112 * (rd (0:Int) a.1 (1:Int)))) + (i64.wrap ((Int.tmod v102 q5_14) * step)))) + v116)) < (List.length a.2:Int)) <|
 guardF (0 ≤ (i64.wrap ((i64.wrap ((i64.wrap ((i64.wrap ((i64.wrap (Int.tdiv v102 q5_14)) * (rd (0:Int) a.1 (0:Int)))) + v112)) * (rd (0:Int) k.1 (2:Int)))) + v116)) ∧ (i64.wrap ((i64.wrap ((i64.wrap ((i64.wrap ((i64.wrap (Int.tdiv v102 q5_14)) * (rd (0:Int) a.1 (0:Int)))) + v112)) * (rd (0:Int) k.1 (2:Int)))) + v116)) < (List.length k.2:Int)) <|
 bindF (f176 c4_0_2 c4_1_2 c4_2_2 (rd (0:Int) a.2 (i64.wrap ((i64.wrap ((i64.wrap (v112 * (rd (0:Int) a.1 (1:Int)))) + (i64.wrap ((Int.tmod v102 q5_14) * step)))) + v116))) (rd (0:Int) k.2 (i64.wrap ((i64.wrap ((i64.wrap ((i64.wrap ((i64.wrap (Int.tdiv v102 q5_14)) * (rd (0:Int) a.1 (0:Int)))) + v112)) * (rd (0:Int) k.1 (2:Int)))) + v116)))) fun q21_26 =>
 go ((i64.wrap (v116 + (1:Int))),q21_26.1,q21_26.2.1,q21_26.2.2)
 else
 some (c4_0_2,c4_1_2,c4_2_2)
def f142_l17 (a : (List Int)×(List Int)) (k : (List Int)×(List Int)) (step:Int) (q5_14:Int) (v102:Int) (go : (Int×Int×Int×Int) → Option (Int×Int×Int)) (v112:Int) (c4_0:Int) (c4_1:Int) (c4_2:Int) : Option (Int×Int×Int) :=
 bif (decide (v112 < (rd (0:Int) a.1 (0:Int)))) then
 bindF (loopF (fun go x=>f142_l18 a k step q5_14 v102 v112 go x.1 x.2.1 x.2.2.1 x.2.2.2) fuelN ((0:Int),c4_0,c4_1,c4_2)) fun z29 =>
 go ((i64.wrap (v112 + (1:Int))),z29.1,z29.2.1,z29.2.2)
 else
 some (c4_0,c4_1,c4_2)
def f142_l14 (a : (List Int)×(List Int)) (k : (List Int)×(List Int)) (step:Int) (q5_14:Int) (r16 : Int×(List Int)×(List Int)) (go : (Int×(List Int)) → Option (List Int)) (v102:Int) (l5 : List Int) : Option (List Int) :=
 bif (decide (v102 < (List.length r16.2.2:Int))) then
 guardF (q5_14 ≠ 0) <|
 guardF (q5_14 ≠ 0) <|
 bindF (loopF (fun go x=>f142_l17 a k step q5_14 v102 go x.1 x.2.1 x.2.2.1 x.2.2.2) fuelN ((0:Int),(0:Int),(0:Int),(0:Int))) fun z28 =>
 bindF (f177 z28.1 z28.2.1 z28.2.2 (32:Int)) fun q24_3 =>
 guardF (0 ≤ v102 ∧ v102 < (List.length l5:Int)) <|
 go ((i64.wrap (v102 + (1:Int))),(List.set l5 (Int.toNat v102) q24_3.1))
 else
 some l5
def f142 (a : (List Int)×(List Int)) (k : (List Int)×(List Int)) (step:Int) : Option (Int×(List Int)×(List Int)) :=
 bindF (f142_j3 a k step) fun z8 =>
 sumF z8 (fun z8a =>
 guardF (0 ≤ (0:Int) ∧ (0:Int) < (List.length a.1:Int)) <|
 guardF (0 ≤ (1:Int) ∧ (1:Int) < (List.length a.1:Int)) <|
 guardF (0 ≤ (2:Int) ∧ (2:Int) < (List.length k.1:Int)) <|
 bindF (f174 (rd (0:Int) a.1 (1:Int)) (rd (0:Int) k.1 (2:Int)) step) fun q5_14 =>
 guardF (0 ≤ (0:Int) ∧ (0:Int) < (List.length k.1:Int)) <|
 bindF (f175 ([(rd (0:Int) k.1 (0:Int)),q5_14])) fun r16 =>
 bif (r16.1 != (0:Int)) then
 some (r16.1,[],[])
 else
 bindF (loopF (fun go x=>f142_l14 a k step q5_14 r16 go x.1 x.2) fuelN ((0:Int),r16.2.2)) fun z25 =>
 some ((0:Int),r16.2.1,z25)) (fun z8b =>
 some (z8b,[],[]))
def C142 : Con where
 X := ((List Int)×(List Int))×((List Int)×(List Int))×Int
 Y := Int×(List Int)×(List Int)
 e := 0
 args x := [.dat T9 x.1,.dat T9 x.2.1,.dat T1 x.2.2]
 hin x := []
 F x := f142 x.1 x.2.1 x.2.2
 ret y := [.raw true [(.osl 0),(.osl 1)],.dat T1 y.1]
 hout y := [(0,.arr 3 T1 y.2.1),(1,.arr 57 T1 y.2.2)]
 nout := 2
theorem C142_vc (a : (List Int)×(List Int)) (k : (List Int)×(List Int)) (step:Int) (y : Int×(List Int)×(List Int)) (hF : f142 a k step = some y) : VC Tryz.f142 C142 (a,k,step) y := by
 unfold f142 at hF
 refine OL ?_
 obtain ⟨z8,hz8,hF⟩ := bindE hF
 refine OQ ⟨Sum.elim (fun z8a=>[(0,⟨[(2,.dat T1 step),(3,P0 0 0),(4,P0 1 0),(6,P0 2 0)],[(0,.cells [(.d T6 a.1),(.d T6 a.2)]),(1,.cells [(.d T6 k.1),(.d T6 k.2)]),(2,.cells [N0,N0])],3⟩)]) (fun z8b=>[(1,⟨[(6,P0 0 0),(7,.dat T1 z8b)],[(0,.cells [N0,N0])],1⟩)]) z8,?_,?_⟩
 ·have hF := hz8
  clear hz8
  unfold f142_j3 at hF
  obtain ⟨z11,hz11,hF⟩ := bindE hF
  refine OQ ⟨[(0,⟨[(2,.dat T1 step),(3,P0 0 0),(4,P0 1 0),(6,P0 2 0),(20,.dat .bool z11)],[(0,.cells [(.d T6 a.1),(.d T6 a.2)]),(1,.cells [(.d T6 k.1),(.d T6 k.2)]),(2,.cells [N0,N0])],3⟩)],?_,?_⟩
  ·have hF := hz11
   clear hz11
   unfold f142_j4 at hF
   obtain ⟨r12,hr12,hF⟩ := bindE hF
   refine OL (AI f91_in (callV0 (callI C91 (a.1,a.2) r12 [] false C91_holds hr12 rfl rfl (R2 (AI (fun h=>nomatch h) (R2 (AI TV (AI TV (condN hF (fun hF=>?_) (fun hF=>?_))))))))))
   ·refine gdYF ?_
    obtain ⟨r13,hr13,hF⟩ := bindE hF
    refine OL (AI f91_in (callV0 (callI C91 (k.1,k.2) r13 [] false C91_holds hr13 rfl rfl (R2 (AI (fun h=>nomatch h) (R2 (AI TV (AI TV (gdYF (condF (condN hF (fun hF=>?_) (fun hF=>?_))))))))))))
    ·refine gdYF ?_
     obtain ⟨r14,hr14,hF⟩ := bindE hF
     refine OL (AI f173_in (callV0 (callI C173 step r14 [] false C173_holds hr14 rfl rfl (AI rfl (AI (fun h=>nomatch h) (R2 (AI TV (AI TV (gdYF (condF ?_))))))))))
     have hz := someE hF
     subst hz
     refine E4 [(0,some 0),(1,some 1),(2,some 2)] (R3 (AI (R3 TV) (R3 TV)))
    refine gdNF (gdNF (condT ?_))
    have hz := someE hF
    subst hz
    refine E4 [(0,some 0),(1,some 1),(2,some 2)] (R3 (AI (R3 TV) (R3 TV)))
   refine gdNF (gdNF (condT (gdNF (gdNF (gdNF (condT ?_))))))
   have hz := someE hF
   subst hz
   refine E4 [(0,some 0),(1,some 1),(2,some 2)] (R3 (AI (R3 TV) (R3 TV)))
  refine AI (condI hF (fun hF=>?_) (fun hF=>?_)) TV
  ·refine OL (OL ?_)
   have hz := someE hF
   subst hz
   refine E4 [(0,some 2)] (R2 (AI (AI rfl TV) (AI rfl TV)))
  obtain ⟨z15,hz15,hF⟩ := bindE hF
  refine OQ ⟨[(0,⟨[(2,.dat T1 step),(3,P0 0 0),(4,P0 1 0),(6,P0 2 0),(35,.dat .bool z15)],[(0,.cells [(.d T6 a.1),(.d T6 a.2)]),(1,.cells [(.d T6 k.1),(.d T6 k.2)]),(2,.cells [N0,N0])],3⟩)],?_,?_⟩
  ·have hF := hz15
   clear hz15
   unfold f142_j5 at hF
   refine EI (.take 0 (.take 1 (.take 2 (.take 3 (.take 4 (.take 5 (.take 6 (.take 7 (.take 8 (.take 9 (.take 10 (.take 11 (.take 12 (.take 13 (.take 14 (.take 15 (.take 16 (.take 17 (.take 18 (.take 19 (.take 20 (.take 21 (.take 22 (.take 23 (.take 24 (.take 25 (.take 26 (.take 27 (.take 28 (.take 29 (.take 30 (.take 31 (.take 32 .done))))))))))))))))))))))))))))))))) (EI [] (EI [] (AI rfl (condN hF (fun hF=>?_) (fun hF=>?_)))))
   ·refine gdYF (gdYF (gdYF (condF (condN hF (fun hF=>?_) (fun hF=>?_)))))
    ·refine gdYF (gdYF (guardI hF (fun hF=>?_)))
     refine gdYF (gdYF (gdYF (gdYF (guardI hF (fun hF=>?_)))))
     refine gdYF (gdYF (condF (condN hF (fun hF=>?_) (fun hF=>?_))))
     ·refine gdYF (gdYF (guardI hF (fun hF=>?_)))
      refine gdYF (gdYF (gdYF (gdYF (guardI hF (fun hF=>?_)))))
      refine gdYF (gdYF (condF ?_))
      have hz := someE hF
      subst hz
      refine E4 [(0,some 0),(1,some 1),(2,some 2)] (R3 (AI (R3 TV) (R3 TV)))
     refine gdNF (gdNF (gdNF (gdNF (gdNF (gdNF (gdNF (gdNF (condT ?_))))))))
     have hz := someE hF
     subst hz
     refine E4 [(0,some 0),(1,some 1),(2,some 2)] (R3 (AI (R3 TV) (R3 TV)))
    refine gdNF (gdNF (gdNF (gdNF (gdNF (gdNF (gdNF (gdNF (condT (gdNF (gdNF (gdNF (gdNF (gdNF (gdNF (gdNF (gdNF (gdNF (condT ?_))))))))))))))))))
    have hz := someE hF
    subst hz
    refine E4 [(0,some 0),(1,some 1),(2,some 2)] (R3 (AI (R3 TV) (R3 TV)))
   refine gdNF (gdNF (gdNF (condT (gdNF (gdNF (gdNF (gdNF (gdNF (gdNF (gdNF (gdNF (gdNF (condT (gdNF (gdNF (gdNF (gdNF (gdNF (gdNF (gdNF (gdNF (gdNF (condT ?_)))))))))))))))))))))))
   have hz := someE hF
   subst hz
   refine E4 [(0,some 0),(1,some 1),(2,some 2)] (R3 (AI (R3 TV) (R3 TV)))
  refine AI (condI hF (fun hF=>?_) (fun hF=>?_)) TV
  ·refine OL (OL ?_)
   have hz := someE hF
   subst hz
   refine E4 [(0,some 2)] (R2 (AI (AI rfl TV) (AI rfl TV)))
  have hz := someE hF
  subst hz
  refine E4 [(0,some 0),(1,some 1),(2,some 2)] (R2 (AI (R3 TV) (R3 TV)))
 rcases z8 with z8a | z8b
 ·dsimp only [sumF] at hF
  refine AI (OL (EI (.take 0 (.take 1 (.take 2 (.take 3 (.take 4 (.take 5 (.take 6 (.take 7 (.take 8 (.take 9 (.take 10 (.take 11 (.take 12 (.take 13 (.take 14 .done))))))))))))))) (EI [] (EI [] (AI rfl (guardI hF (fun hF=>?_))))))) TV
  refine guardI hF (fun hF=>?_)
  refine guardI hF (fun hF=>?_)
  refine OL ?_
  obtain ⟨q5_14,hq5_14,hF⟩ := bindE hF
  refine OL (AI f174_in (callV0 (callI C174 ((rd (0:Int) a.1 (1:Int)),(rd (0:Int) k.1 (2:Int)),step) q5_14 [] false C174_holds hq5_14 rfl rfl (R3 (AI (fun h=>nomatch h) (R2 (AI TV (AI TV (OL (guardI hF (fun hF=>?_)))))))))))
  refine OL ?_
  obtain ⟨r16,hr16,hF⟩ := bindE hF
  refine OL (AI f175_in (callV0 (callI C175 [(rd (0:Int) k.1 (0:Int)),q5_14] r16 [] true C175_holds hr16 rfl rfl (AI rfl (AI (fun _=>rfl) (R2 (AI TV (AI TV (OL (OL (OL (condI hF (fun hF=>?_) (fun hF=>?_)))))))))))))
  ·refine OL (OL ?_)
   have hy := someE hF
   subst hy
   refine AI rfl (E4 [(0,none),(1,none)] (R2 (AI (AI rfl TV) (R2 TV))))
  refine OL (OL ?_)
  obtain ⟨z25,hz25,hF⟩ := bindE hF
  refine loopI (Int×(List Int)) (List Int) (fun x=>⟨[(2,.dat T1 step),(3,P0 0 0),(4,P0 1 0),(6,P0 2 0),(8,.dat T1 (rd (0:Int) a.1 (0:Int))),(9,.dat T1 (rd (0:Int) a.1 (1:Int))),(10,.dat T1 (rd (0:Int) k.1 (2:Int))),(11,.dat T1 q5_14),(12,P0 3 0),(101,.dat T1 (List.length r16.2.2:Int)),(102,.dat T1 x.1)],[(0,.cells [(.d T6 a.1),(.d T6 a.2)]),(1,.cells [(.d T6 k.1),(.d T6 k.2)]),(2,.cells [N0,N0]),(3,.cells [(.osl 4),(.osl 5)]),(4,.arr 3 T1 r16.2.1),(5,.arr 57 T1 x.2)],6⟩) (fun z=>[(3,⟨[(6,P0 0 0),(12,P0 1 0)],[(0,.cells [N0,N0]),(1,.cells [(.osl 2),(.osl 3)]),(2,.arr 3 T1 r16.2.1),(3,.arr 57 T1 z)],4⟩)]) (loopF (fun go x=>f142_l14 a k step q5_14 r16 go x.1 x.2)) fuelN ((0:Int),r16.2.2) z25 (AI hz25 (AI (E4 [(0,some 0),(1,some 1),(2,some 2),(3,some 6),(4,some 4),(5,some 5)] (R8 (AI (R4 TV) (R6 TV)))) (AI (fun _ _ h=>loopZ h) (AI (fun m=>curI (fun v102=>fun l5 z hF=>?_)) ?_))))
  ·have hF : f142_l14 a k step q5_14 r16 (loopF (fun go x=>f142_l14 a k step q5_14 r16 go x.1 x.2) m) v102 l5 = some z := hF
   unfold f142_l14 at hF
   refine OL (OL (condI hF (fun hF=>?_) (fun hF=>?_)))
   ·refine OL (OL (OL (EI (.take 0 (.take 1 (.take 2 (.take 3 (.take 4 (.take 5 (.take 6 (.take 7 .done)))))))) (EI [] (EI [] (AI rfl (guardI hF (fun hF=>?_))))))))
    refine guardI hF (fun hF=>?_)
    refine OL (OL (OL ?_))
    obtain ⟨z28,hz28,hF⟩ := bindE hF
    refine loopI (Int×Int×Int×Int) (Int×Int×Int) (fun x=>⟨[(2,.dat T1 step),(3,P0 0 0),(4,P0 1 0),(6,P0 2 0),(8,.dat T1 (rd (0:Int) a.1 (0:Int))),(9,.dat T1 (rd (0:Int) a.1 (1:Int))),(10,.dat T1 (rd (0:Int) k.1 (2:Int))),(11,.dat T1 q5_14),(12,P0 3 0),(14,.dat T1 v102),(15,.dat T1 (i64.wrap (Int.tdiv v102 q5_14))),(16,.dat T1 (Int.tmod v102 q5_14)),(17,P0 4 0),(101,.dat T1 (List.length r16.2.2:Int)),(102,.dat T1 v102),(111,.dat T1 (rd (0:Int) a.1 (0:Int))),(112,.dat T1 x.1)],[(0,.cells [(.d T6 a.1),(.d T6 a.2)]),(1,.cells [(.d T6 k.1),(.d T6 k.2)]),(2,.cells [N0,N0]),(3,.cells [(.osl 5),(.osl 6)]),(4,.cells [(.d T1 x.2.1),(.d T1 x.2.2.1),(.d T10 x.2.2.2)]),(5,.arr 3 T1 r16.2.1),(6,.arr 57 T1 l5)],7⟩) (fun z=>[(5,⟨[(2,.dat T1 step),(3,P0 0 0),(4,P0 1 0),(6,P0 2 0),(8,.dat T1 (rd (0:Int) a.1 (0:Int))),(9,.dat T1 (rd (0:Int) a.1 (1:Int))),(10,.dat T1 (rd (0:Int) k.1 (2:Int))),(11,.dat T1 q5_14),(12,P0 3 0),(14,.dat T1 v102),(17,P0 4 0),(101,.dat T1 (List.length r16.2.2:Int)),(102,.dat T1 v102)],[(0,.cells [(.d T6 a.1),(.d T6 a.2)]),(1,.cells [(.d T6 k.1),(.d T6 k.2)]),(2,.cells [N0,N0]),(3,.cells [(.osl 5),(.osl 6)]),(4,.cells [(.d T1 z.1),(.d T1 z.2.1),(.d T10 z.2.2)]),(5,.arr 3 T1 r16.2.1),(6,.arr 57 T1 l5)],7⟩)]) (loopF (fun go x=>f142_l17 a k step q5_14 v102 go x.1 x.2.1 x.2.2.1 x.2.2.2)) fuelN ((0:Int),(0:Int),(0:Int),(0:Int)) z28 (AI hz28 (AI (E4 [(0,some 0),(1,some 1),(2,some 2),(3,some 3),(4,some 6),(5,some 4),(6,some 5)] (R13 (AI (R5 TV) (R7 TV)))) (AI (fun _ _ h=>loopZ h) (AI (fun m=>curI (fun v112=>curI (fun c4_0=>curI (fun c4_1=>fun c4_2 z hF=>?_)))) ?_))))
    ·have hF : f142_l17 a k step q5_14 v102 (loopF (fun go x=>f142_l17 a k step q5_14 v102 go x.1 x.2.1 x.2.2.1 x.2.2.2) m) v112 c4_0 c4_1 c4_2 = some z := hF
     unfold f142_l17 at hF
     refine OL (OL (condI hF (fun hF=>?_) (fun hF=>?_)))
     ·refine OL (OL (OL ?_))
      obtain ⟨z29,hz29,hF⟩ := bindE hF
      refine loopI (Int×Int×Int×Int) (Int×Int×Int) (fun x=>⟨[(2,.dat T1 step),(3,P0 0 0),(4,P0 1 0),(6,P0 2 0),(8,.dat T1 (rd (0:Int) a.1 (0:Int))),(9,.dat T1 (rd (0:Int) a.1 (1:Int))),(10,.dat T1 (rd (0:Int) k.1 (2:Int))),(11,.dat T1 q5_14),(12,P0 3 0),(14,.dat T1 v102),(15,.dat T1 (i64.wrap (Int.tdiv v102 q5_14))),(16,.dat T1 (Int.tmod v102 q5_14)),(17,P0 4 0),(18,.dat T1 v112),(101,.dat T1 (List.length r16.2.2:Int)),(102,.dat T1 v102),(111,.dat T1 (rd (0:Int) a.1 (0:Int))),(112,.dat T1 v112),(115,.dat T1 (rd (0:Int) k.1 (2:Int))),(116,.dat T1 x.1)],[(0,.cells [(.d T6 a.1),(.d T6 a.2)]),(1,.cells [(.d T6 k.1),(.d T6 k.2)]),(2,.cells [N0,N0]),(3,.cells [(.osl 5),(.osl 6)]),(4,.cells [(.d T1 x.2.1),(.d T1 x.2.2.1),(.d T10 x.2.2.2)]),(5,.arr 3 T1 r16.2.1),(6,.arr 57 T1 l5)],7⟩) (fun z=>[(7,⟨[(2,.dat T1 step),(3,P0 0 0),(4,P0 1 0),(6,P0 2 0),(8,.dat T1 (rd (0:Int) a.1 (0:Int))),(9,.dat T1 (rd (0:Int) a.1 (1:Int))),(10,.dat T1 (rd (0:Int) k.1 (2:Int))),(11,.dat T1 q5_14),(12,P0 3 0),(14,.dat T1 v102),(15,.dat T1 (i64.wrap (Int.tdiv v102 q5_14))),(16,.dat T1 (Int.tmod v102 q5_14)),(17,P0 4 0),(101,.dat T1 (List.length r16.2.2:Int)),(102,.dat T1 v102),(111,.dat T1 (rd (0:Int) a.1 (0:Int))),(112,.dat T1 v112)],[(0,.cells [(.d T6 a.1),(.d T6 a.2)]),(1,.cells [(.d T6 k.1),(.d T6 k.2)]),(2,.cells [N0,N0]),(3,.cells [(.osl 5),(.osl 6)]),(4,.cells [(.d T1 z.1),(.d T1 z.2.1),(.d T10 z.2.2)]),(5,.arr 3 T1 r16.2.1),(6,.arr 57 T1 l5)],7⟩)]) (loopF (fun go x=>f142_l18 a k step q5_14 v102 v112 go x.1 x.2.1 x.2.2.1 x.2.2.2)) fuelN ((0:Int),c4_0,c4_1,c4_2) z29 (AI hz29 (AI (E4 [(0,some 0),(1,some 1),(2,some 2),(3,some 3),(4,some 4),(5,some 5),(6,some 6)] (R16 (AI (R5 TV) (R7 TV)))) (AI (fun _ _ h=>loopZ h) (AI (fun m=>curI (fun v116=>curI (fun c4_0_2=>curI (fun c4_1_2=>fun c4_2_2 z hF=>?_)))) ?_))))
      ·have hF : f142_l18 a k step q5_14 v102 v112 (loopF (fun go x=>f142_l18 a k step q5_14 v102 v112 go x.1 x.2.1 x.2.2.1 x.2.2.2) m) v116 c4_0_2 c4_1_2 c4_2_2 = some z := hF
       unfold f142_l18 at hF
       refine OL (OL (condI hF (fun hF=>?_) (fun hF=>?_)))
       ·refine OL (OL (EI (.take 0 (.take 1 (.take 2 (.take 3 (.take 4 (.take 5 (.take 6 (.take 7 (.take 8 (.take 9 (.take 10 (.take 11 (.take 12 (.take 13 (.take 14 (.take 15 (.take 16 (.take 17 (.take 18 (.take 19 (.take 20 (.take 21 (.take 22 (.take 23 (.take 24 (.take 25 (.alt 26 .done .done))))))))))))))))))))))))))) (EI [] (EI [] (AI rfl (guardI hF (fun hF=>?_)))))))
        refine guardI hF (fun hF=>?_)
        refine AI TV ?_
        obtain ⟨q21_26,hq21_26,hF⟩ := bindE hF
        refine OL (AI f176_in (callV0 (callI C176 (c4_0_2,c4_1_2,c4_2_2,(rd (0:Int) a.2 (i64.wrap ((i64.wrap ((i64.wrap (v112 * (rd (0:Int) a.1 (1:Int)))) + (i64.wrap ((Int.tmod v102 q5_14) * step)))) + v116))),(rd (0:Int) k.2 (i64.wrap ((i64.wrap ((i64.wrap ((i64.wrap ((i64.wrap (Int.tdiv v102 q5_14)) * (rd (0:Int) a.1 (0:Int)))) + v112)) * (rd (0:Int) k.1 (2:Int)))) + v116)))) q21_26 [(0,some 4)] false C176_holds hq21_26 rfl rfl (R2 (AI (fun h=>nomatch h) (R2 (AI (AI rfl TV) (AI (AI rfl TV) (EI ((i64.wrap (v116 + (1:Int))),q21_26.1,q21_26.2.1,q21_26.2.2) (AI hF (E4 [(0,some 0),(1,some 1),(2,some 2),(3,some 3),(4,some 4),(5,some 5),(6,some 6)] (R16 (AI (R5 TV) (R7 TV))))))))))))))
       have hz := someE hF
       subst hz
       refine E4 [(0,some 0),(1,some 1),(2,some 2),(3,some 3),(4,some 4),(5,some 5),(6,some 6)] (R13 (AI (R5 TV) (R7 TV)))
      refine AI (EI ((i64.wrap (v112 + (1:Int))),z29.1,z29.2.1,z29.2.2) (AI hF (E4 [(0,some 0),(1,some 1),(2,some 2),(3,some 3),(4,some 4),(5,some 5),(6,some 6)] (R13 (AI (R5 TV) (R7 TV)))))) TV
     have hz := someE hF
     subst hz
     refine E4 [(0,some 0),(1,some 1),(2,some 2),(3,some 3),(4,some 4),(5,some 5),(6,some 6)] (R9 (AI (R5 TV) (R7 TV)))
    refine AI (EI (.take 0 (.take 1 (.take 2 (.alt 3 (.take 4 (.alt 5 .done .done)) .done)))) (EI [] (EI [] (AI rfl (AI TV ?_))))) TV
    obtain ⟨q24_3,hq24_3,hF⟩ := bindE hF
    refine OL (AI f177_in (callV0 (callI C177 (z28.1,z28.2.1,z28.2.2,(32:Int)) q24_3 [(0,some 4)] false C177_holds hq24_3 rfl rfl (AI rfl (AI (fun h=>nomatch h) (R2 (AI (AI rfl TV) (AI (AI rfl TV) (guardI hF (fun hF=>?_))))))))))
    refine AI TV (OL (EI ((i64.wrap (v102 + (1:Int))),(List.set l5 (Int.toNat v102) q24_3.1)) (AI hF (E4 [(0,some 0),(1,some 1),(2,some 2),(3,some 3),(4,some 5),(5,some 6)] (R8 (AI (R4 TV) (R6 TV)))))))
   have hz := someE hF
   subst hz
   refine E4 [(0,some 2),(1,some 3),(2,some 4),(3,some 5)] (AI rfl (AI (R2 TV) (R4 TV)))
  refine AI (OL (OL ?_)) TV
  have hy := someE hF
  subst hy
  refine AI rfl (E4 [(0,some 2),(1,some 3)] (R2 (AI (AI rfl TV) (R2 TV))))
 dsimp only [sumF] at hF
 refine AI ?_ TV
 have hy := someE hF
 subst hy
 refine AI rfl (E4 [(0,none),(1,none)] (R2 (AI (AI rfl TV) (R2 TV))))
theorem C142_holds : C142.Holds Tryz.prog 142 := holds_of_vc tab_ok mixed (fn := Tryz.f142) (by kernel_rfl) rfl C142 (fun x y hF=>C142_vc x.1 x.2.1 x.2.2 y hF)
theorem f142_in : InP 142 := ⟨Tryz.f142,by kernel_rfl,by kernel_rfl,by kernel_rfl⟩
def f120 (op:Int) (a : (List Int)×(List Int)) (b : (List Int)×(List Int)) (k:Int) : Option (Int×(List Int)×(List Int)) :=
 bif (op == (2:Int)) then
 bindF (f138 (a.1,a.2) (b.1,b.2)) fun r1 =>
 some (r1.1,r1.2.1,r1.2.2)
 else
 bif (op == (3:Int)) then
 bindF (f139 (a.1,a.2) (b.1,b.2)) fun r2 =>
 some (r2.1,r2.2.1,r2.2.2)
 else
 bif (op == (4:Int)) then
 bindF (f140 (a.1,a.2) (b.1,b.2)) fun r3 =>
 some (r3.1,r3.2.1,r3.2.2)
 else
 bif (op == (6:Int)) then
 bindF (f141 (a.1,a.2) (b.1,b.2)) fun r4 =>
 some (r4.1,r4.2.1,r4.2.2)
 else
 bindF (f142 (a.1,a.2) (b.1,b.2) k) fun r5 =>
 some (r5.1,r5.2.1,r5.2.2)
def C120 : Con where
 X := Int×((List Int)×(List Int))×((List Int)×(List Int))×Int
 Y := Int×(List Int)×(List Int)
 e := 0
 args x := [.dat T1 x.1,.dat T9 x.2.1,.dat T9 x.2.2.1,.dat T1 x.2.2.2]
 hin x := []
 F x := f120 x.1 x.2.1 x.2.2.1 x.2.2.2
 ret y := [.raw true [(.osl 0),(.osl 1)],.dat T1 y.1]
 hout y := [(0,.arr 3 T1 y.2.1),(1,.arr 57 T1 y.2.2)]
 nout := 2
theorem C120_vc (op:Int) (a : (List Int)×(List Int)) (b : (List Int)×(List Int)) (k:Int) (y : Int×(List Int)×(List Int)) (hF : f120 op a b k = some y) : VC Tryz.f120 C120 (op,a,b,k) y := by
 unfold f120 at hF
 refine OL (OL (OL (OL (condI hF (fun hF=>?_) (fun hF=>?_)))))
 ·refine OL ?_
  obtain ⟨r1,hr1,hF⟩ := bindE hF
  refine OL (AI f138_in (callV0 (callI C138 ((a.1,a.2),(b.1,b.2)) r1 [] false C138_holds hr1 rfl rfl (R4 (AI (fun h=>nomatch h) (R2 (AI TV (AI TV (OL ?_)))))))))
  have hy := someE hF
  subst hy
  refine AI rfl (E4 [(0,some 3),(1,some 4)] (R2 (AI (AI rfl TV) (R2 TV))))
 refine OL (condI hF (fun hF=>?_) (fun hF=>?_))
 ·refine OL ?_
  obtain ⟨r2,hr2,hF⟩ := bindE hF
  refine OL (AI f139_in (callV0 (callI C139 ((a.1,a.2),(b.1,b.2)) r2 [] false C139_holds hr2 rfl rfl (R4 (AI (fun h=>nomatch h) (R2 (AI TV (AI TV (OL ?_)))))))))
  have hy := someE hF
  subst hy
  refine AI rfl (E4 [(0,some 3),(1,some 4)] (R2 (AI (AI rfl TV) (R2 TV))))
 refine OL (condI hF (fun hF=>?_) (fun hF=>?_))
 ·refine OL ?_
  obtain ⟨r3,hr3,hF⟩ := bindE hF
  refine OL (AI f140_in (callV0 (callI C140 ((a.1,a.2),(b.1,b.2)) r3 [] false C140_holds hr3 rfl rfl (R4 (AI (fun h=>nomatch h) (R2 (AI TV (AI TV (OL ?_)))))))))
  have hy := someE hF
  subst hy
  refine AI rfl (E4 [(0,some 3),(1,some 4)] (R2 (AI (AI rfl TV) (R2 TV))))
 refine OL (condI hF (fun hF=>?_) (fun hF=>?_))
 ·refine OL ?_
  obtain ⟨r4,hr4,hF⟩ := bindE hF
  refine OL (AI f141_in (callV0 (callI C141 ((a.1,a.2),(b.1,b.2)) r4 [] false C141_holds hr4 rfl rfl (R4 (AI (fun h=>nomatch h) (R2 (AI TV (AI TV (OL ?_)))))))))
  have hy := someE hF
  subst hy
  refine AI rfl (E4 [(0,some 3),(1,some 4)] (R2 (AI (AI rfl TV) (R2 TV))))
 refine OL ?_
 obtain ⟨r5,hr5,hF⟩ := bindE hF
 refine OL (AI f142_in (callV0 (callI C142 ((a.1,a.2),(b.1,b.2),k) r5 [] false C142_holds hr5 rfl rfl (R5 (AI (fun h=>nomatch h) (R2 (AI TV (AI TV (OL ?_)))))))))
 have hy := someE hF
 subst hy
 refine AI rfl (E4 [(0,some 3),(1,some 4)] (R2 (AI (AI rfl TV) (R2 TV))))
theorem C120_holds : C120.Holds Tryz.prog 120 := holds_of_vc tab_ok mixed (fn := Tryz.f120) (by kernel_rfl) rfl C120 (fun x y hF=>C120_vc x.1 x.2.1 x.2.2.1 x.2.2.2 y hF)
theorem f120_in : InP 120 := ⟨Tryz.f120,by kernel_rfl,by kernel_rfl,by kernel_rfl⟩
def f143_l1 (k:Int) (r1 : (List Int)×(List Int)) (go : (Int×(List Int)) → Option (List Int)) (v18:Int) (l2 : List Int) : Option (List Int) :=
 bif (decide (v18 < (List.length r1.2:Int))) then
 guardF (0 ≤ v18 ∧ v18 < (List.length l2:Int)) <|
 bindF (f169 (rd (0:Int) l2 v18) k) fun q7_5 =>
 guardF (0 ≤ v18 ∧ v18 < (List.length l2:Int)) <|
 go ((i64.wrap (v18 + (1:Int))),(List.set l2 (Int.toNat v18) q7_5))
 else
 some l2
def f143 (a : (List Int)×(List Int)) (k:Int) : Option (Int×(List Int)×(List Int)) :=
 bindF (f91 (a.1,a.2)) fun q7_7 =>
 bif (!q7_7) then
 some ((1:Int),[],[])
 else
 bindF (f49 (a.1,a.2)) fun r1 =>
 bindF (loopF (fun go x=>f143_l1 k r1 go x.1 x.2) fuelN ((0:Int),r1.2)) fun z2 =>
 some ((0:Int),r1.1,z2)
def C143 : Con where
 X := ((List Int)×(List Int))×Int
 Y := Int×(List Int)×(List Int)
 e := 0
 args x := [.dat T9 x.1,.dat T1 x.2]
 hin x := []
 F x := f143 x.1 x.2
 ret y := [.raw true [(.osl 0),(.osl 1)],.dat T1 y.1]
 hout y := [(0,.arr 3 T1 y.2.1),(1,.arr 57 T1 y.2.2)]
 nout := 2
theorem C143_vc (a : (List Int)×(List Int)) (k:Int) (y : Int×(List Int)×(List Int)) (hF : f143 a k = some y) : VC Tryz.f143 C143 (a,k) y := by
 unfold f143 at hF
 refine OL (OL (OL ?_))
 obtain ⟨q7_7,hq7_7,hF⟩ := bindE hF
 refine OL (AI f91_in (callV0 (callI C91 (a.1,a.2) q7_7 [] false C91_holds hq7_7 rfl rfl (R2 (AI (fun h=>nomatch h) (R2 (AI TV (AI TV (condI hF (fun hF=>?_) (fun hF=>?_))))))))))
 ·refine OL (OL ?_)
  have hy := someE hF
  subst hy
  refine AI rfl (E4 [(0,none),(1,none)] (R2 (AI (AI rfl TV) (R2 TV))))
 refine OL ?_
 obtain ⟨r1,hr1,hF⟩ := bindE hF
 refine OL (AI f49_in (callV0 (callI C49 (a.1,a.2) r1 [] false C49_holds hr1 rfl rfl (R2 (AI (fun h=>nomatch h) (R2 (AI TV (AI TV (OL (OL (OL ?_)))))))))))
 obtain ⟨z2,hz2,hF⟩ := bindE hF
 refine loopI (Int×(List Int)) (List Int) (fun x=>⟨[(1,.dat T1 k),(4,P0 0 0),(6,P0 1 0),(16,O0 2),(17,.dat T1 (List.length r1.2:Int)),(18,.dat T1 x.1)],[(0,.cells [N0,N0]),(1,.cells [(.osl 3),(.osl 2)]),(2,.arr 57 T1 x.2),(3,.arr 3 T1 r1.1)],4⟩) (fun z=>[(2,⟨[(4,P0 0 0),(6,P0 1 0)],[(0,.cells [N0,N0]),(1,.cells [(.osl 2),(.osl 3)]),(2,.arr 3 T1 r1.1),(3,.arr 57 T1 z)],4⟩)]) (loopF (fun go x=>f143_l1 k r1 go x.1 x.2)) fuelN ((0:Int),r1.2) z2 (AI hz2 (AI (E4 [(0,some 1),(1,some 4),(2,some 3),(3,some 2)] (R4 (AI (R3 TV) (R4 TV)))) (AI (fun _ _ h=>loopZ h) (AI (fun m=>curI (fun v18=>fun l2 z hF=>?_)) ?_))))
 ·have hF : f143_l1 k r1 (loopF (fun go x=>f143_l1 k r1 go x.1 x.2) m) v18 l2 = some z := hF
  unfold f143_l1 at hF
  refine OL (OL (condI hF (fun hF=>?_) (fun hF=>?_)))
  ·refine OL (OL (guardI hF (fun hF=>?_)))
   refine EI (.take 0 (.take 1 (.take 2 (.take 3 (.take 4 (.alt 5 (.take 6 (.alt 7 .done .done)) .done)))))) (EI [] (EI [] (AI rfl (AI TV ?_))))
   obtain ⟨q7_5,hq7_5,hF⟩ := bindE hF
   refine OL (AI f169_in (callV0 (callI C169 ((rd (0:Int) l2 v18),k) q7_5 [] false C169_holds hq7_5 rfl rfl (R2 (AI (fun h=>nomatch h) (R2 (AI TV (AI TV (guardI hF (fun hF=>?_))))))))))
   refine AI TV (OL (EI ((i64.wrap (v18 + (1:Int))),(List.set l2 (Int.toNat v18) q7_5)) (AI hF (E4 [(0,some 0),(1,some 1),(2,some 2),(3,some 3)] (R4 (AI (R3 TV) (R4 TV)))))))
  have hz := someE hF
  subst hz
  refine E4 [(0,some 0),(1,some 1),(2,some 3),(3,some 2)] (AI rfl (AI (R2 TV) (R4 TV)))
 refine AI (OL (OL ?_)) TV
 have hy := someE hF
 subst hy
 refine AI rfl (E4 [(0,some 2),(1,some 3)] (R2 (AI (AI rfl TV) (R2 TV))))
theorem C143_holds : C143.Holds Tryz.prog 143 := holds_of_vc tab_ok mixed (fn := Tryz.f143) (by kernel_rfl) rfl C143 (fun x y hF=>C143_vc x.1 x.2 y hF)
theorem f143_in : InP 143 := ⟨Tryz.f143,by kernel_rfl,by kernel_rfl,by kernel_rfl⟩
def f145_j3 (a : (List Int)×(List Int)) (side:Int) : Option Bool :=
 bindF (f91 (a.1,a.2)) fun r6 =>
 bif (!r6) then
 some true
 else
 bif (decide (side < (0:Int))) then
 some true
 else
 some (decide (side ≥ (List.length a.1:Int)))
def f145_j2 (a : (List Int)×(List Int)) (side:Int) : Option (Sum Unit Unit) :=
 bindF (f145_j3 a side) fun z5 =>
 bif z5 then
 some (Sum.inr ())
 else
 some (Sum.inl ())
def f145_l4 (a : (List Int)×(List Int)) (side:Int) (r7 : List Int) (go : (Int×(List (Int×Int))) → Option (List (Int×Int))) (v55:Int) (l3 : List (Int×Int)) : Option (List (Int×Int)) :=
 bif (decide (v55 < (List.length a.2:Int))) then
 guardF (0 ≤ v55 ∧ v55 < (List.length a.2:Int)) <|
 guardF (0 ≤ side ∧ side < (List.length a.1:Int)) <|
 guardF ((i64.wrap ((rd (0:Int) r7 side) * (rd (0:Int) a.1 side))) ≠ 0) <|
 guardF ((rd (0:Int) r7 side) ≠ 0) <|
 guardF (0 ≤ (i64.wrap ((i64.wrap ((i64.wrap (Int.tdiv v55 (i64.wrap ((rd (0:Int) r7 side) * (rd (0:Int) a.1 side))))) * (rd (0:Int) r7 side))) + (Int.tmod v55 (rd (0:Int) r7 side)))) ∧ (i64.wrap ((i64.wrap ((i64.wrap (Int.tdiv v55 (i64.wrap ((rd (0:Int) r7 side) * (rd (0:Int) a.1 side))))) * (rd (0:Int) r7 side))) + (Int.tmod v55 (rd (0:Int) r7 side)))) < (List.length l3:Int)) <|
 bindF (f181 (rd (0:Int) a.2 v55)) fun q10_7 =>
 bindF (f180 ((rd (Ty.z T11) l3 (i64.wrap ((i64.wrap ((i64.wrap (Int.tdiv v55 (i64.wrap ((rd (0:Int) r7 side) * (rd (0:Int) a.1 side))))) * (rd (0:Int) r7 side))) + (Int.tmod v55 (rd (0:Int) r7 side))))).1,(rd (Ty.z T11) l3 (i64.wrap ((i64.wrap ((i64.wrap (Int.tdiv v55 (i64.wrap ((rd (0:Int) r7 side) * (rd (0:Int) a.1 side))))) * (rd (0:Int) r7 side))) + (Int.tmod v55 (rd (0:Int) r7 side))))).2) (q10_7.1,q10_7.2)) fun q10_8 =>
 guardF (0 ≤ (i64.wrap ((i64.wrap ((i64.wrap (Int.tdiv v55 (i64.wrap ((rd (0:Int) r7 side) * (rd (0:Int) a.1 side))))) * (rd (0:Int) r7 side))) + (Int.tmod v55 (rd (0:Int) r7 side)))) ∧ (i64.wrap ((i64.wrap ((i64.wrap (Int.tdiv v55 (i64.wrap ((rd (0:Int) r7 side) * (rd (0:Int) a.1 side))))) * (rd (0:Int) r7 side))) + (Int.tmod v55 (rd (0:Int) r7 side)))) < (List.length l3:Int)) <|
 go ((i64.wrap (v55 + (1:Int))),(List.set l3 (Int.toNat (i64.wrap ((i64.wrap ((i64.wrap (Int.tdiv v55 (i64.wrap ((rd (0:Int) r7 side) * (rd (0:Int) a.1 side))))) * (rd (0:Int) r7 side))) + (Int.tmod v55 (rd (0:Int) r7 side))))) (q10_8.1,q10_8.2)))
 else
 some l3
def f145_l5 (z8 : List (Int×Int)) (go : (Int×(List Int)) → Option (List Int)) (v93:Int) (l4 : List Int) : Option (List Int) :=
 bif (decide (v93 < (List.length z8:Int))) then
 guardF (0 ≤ v93 ∧ v93 < (List.length z8:Int)) <|
 bindF (f182 ((rd (Ty.z T11) z8 v93).1,(rd (Ty.z T11) z8 v93).2)) fun q16_4 =>
 guardF (0 ≤ v93 ∧ v93 < (List.length l4:Int)) <|
 go ((i64.wrap (v93 + (1:Int))),(List.set l4 (Int.toNat v93) q16_4))
 else
 some l4
def f145 (a : (List Int)×(List Int)) (side:Int) : Option (Int×(List Int)×(List Int)) :=
 bindF (f145_j2 a side) fun z3 =>
 sumF z3 (fun z3a =>
 guardF (0 ≤ side ∧ side ≤ (List.length a.1:Int)) <|
 guardF (0 ≤ (i64.wrap (side + (1:Int))) ∧ (i64.wrap (side + (1:Int))) ≤ (List.length a.1:Int)) <|
 guardF ((List.length ([] : List Int) + List.length (List.take (Int.toNat side) a.1)) * 8 ≤ 140737488355328) <|
 guardF ((List.length (([] : List Int) ++ (List.take (Int.toNat side) a.1)) + List.length (List.drop (Int.toNat (i64.wrap (side + (1:Int)))) a.1)) * 8 ≤ 140737488355328) <|
 bindF (f117 ((([] : List Int) ++ (List.take (Int.toNat side) a.1)) ++ (List.drop (Int.toNat (i64.wrap (side + (1:Int)))) a.1))) fun q3_12 =>
 guardF (0 ≤ q3_12 ∧ q3_12 ≤ q3_12 ∧ Int.toNat q3_12 * 16 ≤ 140737488355328) <|
 bindF (f179 a.1) fun r7 =>
 guardF (0 ≤ side ∧ side < (List.length r7:Int)) <|
 bindF (loopF (fun go x=>f145_l4 a side r7 go x.1 x.2) fuelN ((0:Int),(List.replicate (Int.toNat q3_12) (Ty.z T11)))) fun z8 =>
 bindF (f171 ((([] : List Int) ++ (List.take (Int.toNat side) a.1)) ++ (List.drop (Int.toNat (i64.wrap (side + (1:Int)))) a.1)) (0:Int)) fun q10_10 =>
 bindF (loopF (fun go x=>f145_l5 z8 go x.1 x.2) fuelN ((0:Int),q10_10.2.2)) fun z9 =>
 some ((0:Int),q10_10.2.1,z9)) (fun z3b =>
 some ((1:Int),[],[]))
def C145 : Con where
 X := ((List Int)×(List Int))×Int
 Y := Int×(List Int)×(List Int)
 e := 0
 args x := [.dat T9 x.1,.dat T1 x.2]
 hin x := []
 F x := f145 x.1 x.2
 ret y := [.raw true [(.osl 0),(.osl 1)],.dat T1 y.1]
 hout y := [(0,.arr 3 T1 y.2.1),(1,.arr 57 T1 y.2.2)]
 nout := 2
theorem C145_vc (a : (List Int)×(List Int)) (side:Int) (y : Int×(List Int)×(List Int)) (hF : f145 a side = some y) : VC Tryz.f145 C145 (a,side) y := by
 unfold f145 at hF
 refine OL ?_
 obtain ⟨z3,hz3,hF⟩ := bindE hF
 refine OQ ⟨Sum.elim (fun z3a=>[(0,⟨[(1,.dat T1 side),(2,P0 0 0),(4,P0 1 0)],[(0,.cells [(.d T6 a.1),(.d T6 a.2)]),(1,.cells [N0,N0])],2⟩)]) (fun z3b=>[(1,⟨[(4,P0 0 0),(5,D0 1)],[(0,.cells [N0,N0])],1⟩)]) z3,?_,?_⟩
 ·have hF := hz3
  clear hz3
  unfold f145_j2 at hF
  obtain ⟨z5,hz5,hF⟩ := bindE hF
  refine OQ ⟨[(0,⟨[(1,.dat T1 side),(2,P0 0 0),(4,P0 1 0),(29,.dat .bool z5)],[(0,.cells [(.d T6 a.1),(.d T6 a.2)]),(1,.cells [N0,N0])],2⟩)],?_,?_⟩
  ·have hF := hz5
   clear hz5
   unfold f145_j3 at hF
   obtain ⟨r6,hr6,hF⟩ := bindE hF
   refine OL (AI f91_in (callV0 (callI C91 (a.1,a.2) r6 [] false C91_holds hr6 rfl rfl (R2 (AI (fun h=>nomatch h) (R2 (AI TV (AI TV (condN hF (fun hF=>?_) (fun hF=>?_))))))))))
   ·refine gdYF (condF (condN hF (fun hF=>?_) (fun hF=>?_)))
    ·refine gdYF (gdYF (gdYF (gdYF (condF ?_))))
     have hz := someE hF
     subst hz
     refine E4 [(0,some 0),(1,some 1)] (R3 (AI (R2 TV) (R2 TV)))
    refine gdNF (gdNF (gdNF (gdNF (condT ?_))))
    have hz := someE hF
    subst hz
    refine E4 [(0,some 0),(1,some 1)] (R3 (AI (R2 TV) (R2 TV)))
   refine gdNF (condT (gdNF (gdNF (gdNF (gdNF (gdNF (condT ?_)))))))
   have hz := someE hF
   subst hz
   refine E4 [(0,some 0),(1,some 1)] (R3 (AI (R2 TV) (R2 TV)))
  refine AI (condI hF (fun hF=>?_) (fun hF=>?_)) TV
  ·refine OL (OL ?_)
   have hz := someE hF
   subst hz
   refine E4 [(0,some 1)] (R2 (AI (AI rfl TV) (AI rfl TV)))
  have hz := someE hF
  subst hz
  refine E4 [(0,some 0),(1,some 1)] (R2 (AI (R2 TV) (R2 TV)))
 rcases z3 with z3a | z3b
 ·dsimp only [sumF] at hF
  refine AI (OL (EI (.take 1 (.take 2 (.take 3 (.take 4 (.take 6 (.take 7 (.take 8 (.take 9 (.take 10 (.alt 0 (.alt 5 (.alt 11 (.take 12 .done) .done) .done) .done)))))))))) (EI [] (EI [] (AI rfl (guardI hF (fun hF=>?_))))))) TV
  refine guardI hF (fun hF=>?_)
  refine AI TV (OL (AI TV (OL (guardI hF (fun hF=>?_)))))
  refine AI TV (OL (guardI hF (fun hF=>?_)))
  refine OL ?_
  obtain ⟨q3_12,hq3_12,hF⟩ := bindE hF
  refine OL (AI f117_in (callV0 (callI C117 ((([] : List Int) ++ (List.take (Int.toNat side) a.1)) ++ (List.drop (Int.toNat (i64.wrap (side + (1:Int)))) a.1)) q3_12 [] true C117_holds hq3_12 rfl rfl (AI rfl (AI (fun _=>rfl) (R2 (AI TV (AI TV (guardI hF (fun hF=>?_))))))))))
  refine OL ?_
  obtain ⟨r7,hr7,hF⟩ := bindE hF
  refine OL (AI f179_in (callV0 (callI C179 a.1 r7 [] false C179_holds hr7 rfl rfl (AI rfl (AI (fun h=>nomatch h) (R2 (AI TV (AI TV (guardI hF (fun hF=>?_))))))))))
  refine OL (OL ?_)
  obtain ⟨z8,hz8,hF⟩ := bindE hF
  refine loopI (Int×(List (Int×Int))) (List (Int×Int)) (fun x=>⟨[(1,.dat T1 side),(2,P0 0 0),(4,P0 1 0),(6,O0 2),(7,O0 3),(8,.dat T1 (rd (0:Int) r7 side)),(53,.dat T6 a.2),(54,.dat T1 (List.length a.2:Int)),(55,.dat T1 x.1)],[(0,.cells [(.d T6 a.1),(.d T6 a.2)]),(1,.cells [N0,N0]),(2,.arr 3 T1 ((([] : List Int) ++ (List.take (Int.toNat side) a.1)) ++ (List.drop (Int.toNat (i64.wrap (side + (1:Int)))) a.1))),(3,.arr 213 T11 x.2)],4⟩) (fun z=>[(2,⟨[(4,P0 0 0),(6,O0 1),(7,O0 2)],[(0,.cells [N0,N0]),(1,.arr 3 T1 ((([] : List Int) ++ (List.take (Int.toNat side) a.1)) ++ (List.drop (Int.toNat (i64.wrap (side + (1:Int)))) a.1))),(2,.arr 213 T11 z)],3⟩)]) (loopF (fun go x=>f145_l4 a side r7 go x.1 x.2)) fuelN ((0:Int),(List.replicate (Int.toNat q3_12) (Ty.z T11))) z8 (AI hz8 (AI (E4 [(0,some 0),(1,some 1),(2,some 4),(3,some 5)] (R6 (AI (R4 TV) (R4 TV)))) (AI (fun _ _ h=>loopZ h) (AI (fun m=>curI (fun v55=>fun l3 z hF=>?_)) ?_))))
  ·have hF : f145_l4 a side r7 (loopF (fun go x=>f145_l4 a side r7 go x.1 x.2) m) v55 l3 = some z := hF
   unfold f145_l4 at hF
   refine OL (OL (condI hF (fun hF=>?_) (fun hF=>?_)))
   ·refine OL (OL (guardI hF (fun hF=>?_)))
    refine OL (EI (.take 0 (.take 1 (.take 2 (.take 3 (.take 4 (.take 5 (.take 6 (.take 7 (.take 8 (.take 9 (.take 10 (.take 11 (.take 12 (.take 13 (.take 14 (.take 15 .done)))))))))))))))) (EI [] (EI [] (AI rfl (guardI hF (fun hF=>?_))))))
    refine guardI hF (fun hF=>?_)
    refine guardI hF (fun hF=>?_)
    refine EI (.take 0 (.take 1 (.take 2 (.take 3 (.take 4 (.take 5 (.take 6 (.alt 7 (.alt 8 (.take 9 (.alt 10 .done .done)) .done) .done)))))))) (EI [(10,[3])] (EI [] (AI rfl (guardI hF (fun hF=>?_)))))
    refine AI TV ?_
    obtain ⟨q10_7,hq10_7,hF⟩ := bindE hF
    refine OL (AI f181_in (callV0 (callI C181 (rd (0:Int) a.2 v55) q10_7 [] false C181_holds hq10_7 rfl rfl (AI rfl (AI (fun h=>nomatch h) (R2 (AI TV (AI TV (AI TV ?_)))))))))
    obtain ⟨q10_8,hq10_8,hF⟩ := bindE hF
    refine OL (AI f180_in (callV0 (callI C180 (((rd (Ty.z T11) l3 (i64.wrap ((i64.wrap ((i64.wrap (Int.tdiv v55 (i64.wrap ((rd (0:Int) r7 side) * (rd (0:Int) a.1 side))))) * (rd (0:Int) r7 side))) + (Int.tmod v55 (rd (0:Int) r7 side))))).1,(rd (Ty.z T11) l3 (i64.wrap ((i64.wrap ((i64.wrap (Int.tdiv v55 (i64.wrap ((rd (0:Int) r7 side) * (rd (0:Int) a.1 side))))) * (rd (0:Int) r7 side))) + (Int.tmod v55 (rd (0:Int) r7 side))))).2),(q10_7.1,q10_7.2)) q10_8 [] false C180_holds hq10_8 rfl rfl (R4 (AI (fun h=>nomatch h) (R2 (AI TV (AI TV (guardI hF (fun hF=>?_))))))))))
    refine AI TV (OL (EI ((i64.wrap (v55 + (1:Int))),(List.set l3 (Int.toNat (i64.wrap ((i64.wrap ((i64.wrap (Int.tdiv v55 (i64.wrap ((rd (0:Int) r7 side) * (rd (0:Int) a.1 side))))) * (rd (0:Int) r7 side))) + (Int.tmod v55 (rd (0:Int) r7 side))))) (q10_8.1,q10_8.2))) (AI hF (E4 [(0,some 0),(1,some 1),(2,some 2),(3,some 3)] (R6 (AI (R4 TV) (R4 TV)))))))
   have hz := someE hF
   subst hz
   refine E4 [(0,some 1),(1,some 2),(2,some 3)] (AI rfl (AI (R3 TV) (R3 TV)))
  refine AI (OL ?_) TV
  obtain ⟨q10_10,hq10_10,hF⟩ := bindE hF
  refine OL (AI f171_in (callV0 (callI C171 (((([] : List Int) ++ (List.take (Int.toNat side) a.1)) ++ (List.drop (Int.toNat (i64.wrap (side + (1:Int)))) a.1)),(0:Int)) q10_10 [] true C171_holds hq10_10 rfl rfl (R2 (AI (fun _=>rfl) (R2 (AI TV (AI TV (OL (OL (OL ?_)))))))))))
  obtain ⟨z9,hz9,hF⟩ := bindE hF
  refine loopI (Int×(List Int)) (List Int) (fun x=>⟨[(4,P0 0 0),(12,P0 1 0),(91,O0 2),(92,.dat T1 (List.length z8:Int)),(93,.dat T1 x.1)],[(0,.cells [N0,N0]),(1,.cells [(.osl 3),(.osl 4)]),(2,.arr 213 T11 z8),(3,.arr 3 T1 q10_10.2.1),(4,.arr 57 T1 x.2)],5⟩) (fun z=>[(4,⟨[(4,P0 0 0),(12,P0 1 0)],[(0,.cells [N0,N0]),(1,.cells [(.osl 2),(.osl 3)]),(2,.arr 3 T1 q10_10.2.1),(3,.arr 57 T1 z)],4⟩)]) (loopF (fun go x=>f145_l5 z8 go x.1 x.2)) fuelN ((0:Int),q10_10.2.2) z9 (AI hz9 (AI (E4 [(0,some 0),(1,some 5),(2,some 2),(3,some 3),(4,some 4)] (R3 (AI (R3 TV) (R5 TV)))) (AI (fun _ _ h=>loopZ h) (AI (fun m=>curI (fun v93=>fun l4 z hF=>?_)) ?_))))
  ·have hF : f145_l5 z8 (loopF (fun go x=>f145_l5 z8 go x.1 x.2) m) v93 l4 = some z := hF
   unfold f145_l5 at hF
   refine OL (OL (condI hF (fun hF=>?_) (fun hF=>?_)))
   ·refine OL (OL (guardI hF (fun hF=>?_)))
    refine OL (EI (.take 0 (.take 1 (.take 2 (.take 3 (.alt 4 (.take 5 (.alt 6 .done .done)) .done))))) (EI [] (EI [] (AI rfl (AI TV ?_)))))
    obtain ⟨q16_4,hq16_4,hF⟩ := bindE hF
    refine OL (AI f182_in (callV0 (callI C182 ((rd (Ty.z T11) z8 v93).1,(rd (Ty.z T11) z8 v93).2) q16_4 [] false C182_holds hq16_4 rfl rfl (R2 (AI (fun h=>nomatch h) (R2 (AI TV (AI TV (guardI hF (fun hF=>?_))))))))))
    refine AI TV (OL (EI ((i64.wrap (v93 + (1:Int))),(List.set l4 (Int.toNat v93) q16_4)) (AI hF (E4 [(0,some 0),(1,some 1),(2,some 2),(3,some 3),(4,some 4)] (R3 (AI (R3 TV) (R5 TV)))))))
   have hz := someE hF
   subst hz
   refine E4 [(0,some 0),(1,some 1),(2,some 3),(3,some 4)] (AI rfl (AI (R2 TV) (R4 TV)))
  refine AI (OL (OL ?_)) TV
  have hy := someE hF
  subst hy
  refine AI rfl (E4 [(0,some 2),(1,some 3)] (R2 (AI (AI rfl TV) (R2 TV))))
 dsimp only [sumF] at hF
 refine AI ?_ TV
 have hy := someE hF
 subst hy
 refine AI rfl (E4 [(0,none),(1,none)] (R2 (AI (AI rfl TV) (R2 TV))))
theorem C145_holds : C145.Holds Tryz.prog 145 := holds_of_vc tab_ok mixed (fn := Tryz.f145) (by kernel_rfl) rfl C145 (fun x y hF=>C145_vc x.1 x.2 y hF)
theorem f145_in : InP 145 := ⟨Tryz.f145,by kernel_rfl,by kernel_rfl,by kernel_rfl⟩
def f183_l1 (v : List Int) (go : (Int×Int×Int) → Option (Int×Int)) (v9:Int) (c1_0:Int) (c1_1:Int) : Option (Int×Int) :=
 bif (decide (v9 < (List.length v:Int))) then
 guardF (0 ≤ v9 ∧ v9 < (List.length v:Int)) <|
 bindF (f181 (rd (0:Int) v v9)) fun q5_2 =>
 bindF (f180 (c1_0,c1_1) (q5_2.1,q5_2.2)) fun q5_3 =>
 go ((i64.wrap (v9 + (1:Int))),q5_3.1,q5_3.2)
 else
 some (c1_0,c1_1)
def f183 (v : List Int) : Option (Int×Int) :=
 bindF (loopF (fun go x=>f183_l1 v go x.1 x.2.1 x.2.2) fuelN ((0:Int),(0:Int),(0:Int))) fun z1 =>
 some (z1.1,z1.2)
def C183 : Con where
 X := List Int
 Y := Int×Int
 e := 0
 args x := [.dat T6 x]
 hin x := []
 F x := f183 x
 ret y := [.raw true [(.d T1 y.1),(.d T10 y.2)]]
 hout y := []
 nout := 0
theorem C183_vc (v : List Int) (y : Int×Int) (hF : f183 v = some y) : VC Tryz.f183 C183 v y := by
 unfold f183 at hF
 refine OL (OL (OL (OL (OL ?_))))
 obtain ⟨z1,hz1,hF⟩ := bindE hF
 refine loopI (Int×Int×Int) (Int×Int) (fun x=>⟨[(2,P0 0 0),(3,P0 1 0),(7,.dat T6 v),(8,.dat T1 (List.length v:Int)),(9,.dat T1 x.1)],[(0,.cells [(.d T1 (0:Int)),(.d T10 (0:Int))]),(1,.cells [(.d T1 x.2.1),(.d T10 x.2.2)])],2⟩) (fun z=>[(2,⟨[(2,P0 0 0),(3,P0 1 0)],[(0,.cells [(.d T1 (0:Int)),(.d T10 (0:Int))]),(1,.cells [(.d T1 z.1),(.d T10 z.2)])],2⟩)]) (loopF (fun go x=>f183_l1 v go x.1 x.2.1 x.2.2)) fuelN ((0:Int),(0:Int),(0:Int)) z1 (AI hz1 (AI (E4 [(0,some 0),(1,some 1)] (R4 (AI (R2 TV) (R2 TV)))) (AI (fun _ _ h=>loopZ h) (AI (fun m=>curI (fun v9=>curI (fun c1_0=>fun c1_1 z hF=>?_))) ?_))))
 ·have hF : f183_l1 v (loopF (fun go x=>f183_l1 v go x.1 x.2.1 x.2.2) m) v9 c1_0 c1_1 = some z := hF
  unfold f183_l1 at hF
  refine OL (OL (condI hF (fun hF=>?_) (fun hF=>?_)))
  ·refine OL (OL (guardI hF (fun hF=>?_)))
   refine EI (.take 0 (.take 1 (.alt 2 (.alt 3 (.alt 4 .done .done) .done) .done))) (EI [(4,[1])] (EI [] (AI rfl (AI TV ?_))))
   obtain ⟨q5_2,hq5_2,hF⟩ := bindE hF
   refine OL (AI f181_in (callV0 (callI C181 (rd (0:Int) v v9) q5_2 [] false C181_holds hq5_2 rfl rfl (AI rfl (AI (fun h=>nomatch h) (R2 (AI TV (AI TV (AI TV ?_)))))))))
   obtain ⟨q5_3,hq5_3,hF⟩ := bindE hF
   refine OL (AI f180_in (callV0 (callI C180 ((c1_0,c1_1),(q5_2.1,q5_2.2)) q5_3 [] false C180_holds hq5_3 rfl rfl (R4 (AI (fun h=>nomatch h) (R2 (AI TV (AI TV (AI TV (OL (EI ((i64.wrap (v9 + (1:Int))),q5_3.1,q5_3.2) (AI hF (E4 [(0,some 0),(1,some 1)] (R4 (AI (R2 TV) (R2 TV))))))))))))))))
  have hz := someE hF
  subst hz
  refine E4 [(0,some 0),(1,some 1)] (AI rfl (AI (R2 TV) (R2 TV)))
 refine AI (OL (OL ?_)) TV
 have hy := someE hF
 subst hy
 refine AI rfl (E4 [] (AI rfl (AI (AI rfl TV) TV)))
theorem C183_holds : C183.Holds Tryz.prog 183 := holds_of_vc tab_ok mixed (fn := Tryz.f183) (by kernel_rfl) rfl C183 (fun x y hF=>C183_vc x y hF)
theorem f183_in : InP 183 := ⟨Tryz.f183,by kernel_rfl,by kernel_rfl,by kernel_rfl⟩
def f147 (a : (List Int)×(List Int)) : Option (Int×Int) :=
 bindF (f91 (a.1,a.2)) fun r1 =>
 bif (!r1) then
 some ((0:Int),(1:Int))
 else
 bindF (f183 a.2) fun r2 =>
 bindF (f182 (r2.1,r2.2)) fun r3 =>
 some (r3,(0:Int))
def C147 : Con where
 X := (List Int)×(List Int)
 Y := Int×Int
 e := 0
 args x := [.dat T9 x]
 hin x := []
 F x := f147 x
 ret y := [.dat T1 y.1,.dat T1 y.2]
 hout y := []
 nout := 0
theorem C147_vc (a : (List Int)×(List Int)) (y : Int×Int) (hF : f147 a = some y) : VC Tryz.f147 C147 a y := by
 unfold f147 at hF
 refine OL (OL (OL ?_))
 obtain ⟨r1,hr1,hF⟩ := bindE hF
 refine OL (AI f91_in (callV0 (callI C91 (a.1,a.2) r1 [] false C91_holds hr1 rfl rfl (R2 (AI (fun h=>nomatch h) (R2 (AI TV (AI TV (condI hF (fun hF=>?_) (fun hF=>?_))))))))))
 ·refine OL ?_
  have hy := someE hF
  subst hy
  refine AI rfl (E4 [] (R3 (AI TV TV)))
 refine OL ?_
 obtain ⟨r2,hr2,hF⟩ := bindE hF
 refine OL (AI f183_in (callV0 (callI C183 a.2 r2 [] false C183_holds hr2 rfl rfl (AI rfl (AI (fun h=>nomatch h) (R2 (AI TV (AI TV ?_))))))))
 obtain ⟨r3,hr3,hF⟩ := bindE hF
 refine OL (AI f182_in (callV0 (callI C182 (r2.1,r2.2) r3 [] false C182_holds hr3 rfl rfl (R2 (AI (fun h=>nomatch h) (R2 (AI TV (AI TV ?_))))))))
 have hy := someE hF
 subst hy
 refine AI rfl (E4 [] (R3 (AI TV TV)))
theorem C147_holds : C147.Holds Tryz.prog 147 := holds_of_vc tab_ok mixed (fn := Tryz.f147) (by kernel_rfl) rfl C147 (fun x y hF=>C147_vc x y hF)
theorem f147_in : InP 147 := ⟨Tryz.f147,by kernel_rfl,by kernel_rfl,by kernel_rfl⟩
def f146 (x_:Int) (e:Int) : Option (Int×(List Int)×(List Int)) :=
 bif (e != (0:Int)) then
 some (e,[],[])
 else
 bindF (f171 ([]) x_) fun r1 =>
 some (r1.1,r1.2.1,r1.2.2)
def C146 : Con where
 X := Int×Int
 Y := Int×(List Int)×(List Int)
 e := 0
 args x := [.dat T1 x.1,.dat T1 x.2]
 hin x := []
 F x := f146 x.1 x.2
 ret y := [.raw true [(.osl 0),(.osl 1)],.dat T1 y.1]
 hout y := [(0,.arr 3 T1 y.2.1),(1,.arr 57 T1 y.2.2)]
 nout := 2
theorem C146_vc (x_:Int) (e:Int) (y : Int×(List Int)×(List Int)) (hF : f146 x_ e = some y) : VC Tryz.f146 C146 (x_,e) y := by
 unfold f146 at hF
 refine OL (OL (OL (condI hF (fun hF=>?_) (fun hF=>?_))))
 ·refine OL (OL ?_)
  have hy := someE hF
  subst hy
  refine AI rfl (E4 [(0,none),(1,none)] (R2 (AI (AI rfl TV) (R2 TV))))
 refine OL ?_
 obtain ⟨r1,hr1,hF⟩ := bindE hF
 refine OL (AI f171_in (callV0 (callI C171 ([],x_) r1 [] false C171_holds hr1 rfl rfl (R2 (AI (fun h=>nomatch h) (R2 (AI TV (AI TV (OL ?_)))))))))
 have hy := someE hF
 subst hy
 refine AI rfl (E4 [(0,some 1),(1,some 2)] (R2 (AI (AI rfl TV) (R2 TV))))
theorem C146_holds : C146.Holds Tryz.prog 146 := holds_of_vc tab_ok mixed (fn := Tryz.f146) (by kernel_rfl) rfl C146 (fun x y hF=>C146_vc x.1 x.2 y hF)
theorem f146_in : InP 146 := ⟨Tryz.f146,by kernel_rfl,by kernel_rfl,by kernel_rfl⟩
def f208_j1 (a : Int×Int) (b : Int×Int) : Option Bool :=
 bif (decide (a.1 < b.1)) then
 some true
 else
 bif (a.1 == b.1) then
 some (decide (a.2 < b.2))
 else
 some false
def f208 (a : Int×Int) (b : Int×Int) : Option Int :=
 bindF (f208_j1 a b) fun z1 =>
 bif z1 then
 some (-1:Int)
 else
 bif (a.1 == b.1 && a.2 == b.2) then
 some (0:Int)
 else
 some (1:Int)
def C208 : Con where
 X := (Int×Int)×(Int×Int)
 Y := Int
 e := 0
 args x := [.dat T11 x.1,.dat T11 x.2]
 hin x := []
 F x := f208 x.1 x.2
 ret y := [.dat T1 y]
 hout y := []
 nout := 0
theorem C208_vc (a : Int×Int) (b : Int×Int) (y:Int) (hF : f208 a b = some y) : VC Tryz.f208 C208 (a,b) y := by
 unfold f208 at hF
 refine OL (OL ?_)
 obtain ⟨z1,hz1,hF⟩ := bindE hF
 refine OQ ⟨[(0,⟨[(2,P0 0 0),(3,P0 1 0),(5,.dat .bool z1)],[(0,.cells [(.d T1 a.1),(.d T10 a.2)]),(1,.cells [(.d T1 b.1),(.d T10 b.2)])],2⟩)],?_,?_⟩
 ·have hF := hz1
  clear hz1
  unfold f208_j1 at hF
  refine condN hF (fun hF=>?_) (fun hF=>?_)
  ·refine gdYF (gdYF (gdYF (gdYF (gdYF (condI hF (fun hF=>?_) (fun hF=>?_))))))
   ·refine gdYT (gdYT (gdYT (gdYT (gdYF (condT (condF ?_))))))
    have hz := someE hF
    subst hz
    refine E4 [(0,some 0),(1,some 1)] (R2 (AI (R2 TV) (R2 TV)))
   refine gdNT (gdNT (gdNT (gdNT (gdYF (condF (condF ?_))))))
   have hz := someE hF
   subst hz
   refine E4 [(0,some 0),(1,some 1)] (R2 (AI (R2 TV) (R2 TV)))
  refine gdNF (gdNF (gdNF (gdNF (gdNF (gdNF (condT ?_))))))
  have hz := someE hF
  subst hz
  refine E4 [(0,some 0),(1,some 1)] (R2 (AI (R2 TV) (R2 TV)))
 refine AI (condI hF (fun hF=>?_) (fun hF=>?_)) TV
 ·refine OL ?_
  have hy := someE hF
  subst hy
  refine AI rfl (E4 [] (R2 (AI TV TV)))
 refine OL (AI ⟨by kernel_rfl,by kernel_rfl,by decide,by decide⟩ ?_)
 refine condI hF (fun hF=>?_) (fun hF=>?_)
 ·refine OL ?_
  have hy := someE hF
  subst hy
  refine AI rfl (E4 [] (R2 (AI TV TV)))
 refine OL ?_
 have hy := someE hF
 subst hy
 refine AI rfl (E4 [] (R2 (AI TV TV)))
theorem C208_holds : C208.Holds Tryz.prog 208 := holds_of_vc tab_ok mixed (fn := Tryz.f208) (by kernel_rfl) rfl C208 (fun x y hF=>C208_vc x.1 x.2 y hF)
theorem f208_in : InP 208 := ⟨Tryz.f208,by kernel_rfl,by kernel_rfl,by kernel_rfl⟩
def f162_s1 : ByteArray := ⟨⟨[0,1,2,2,3,3,3,3,4,4,4,4,4,4,4,4,5,5,5,5,5,5,5,5,5,5,5,5,5,5,5,5,6,6,6,6,6,6,6,6,6,6,6,6,6,6,6,6,6,6,6,6,6,6,6,6,6,6,6,6,6,6,6,6,7,7,7,7,7,7,7,7,7,7,7,7,7,7,7,7,7,7,7,7,7,7,7,7,7,7,7,7,7,7,7,7,7,7,7,7,7,7,7,7,7,7,7,7,7,7,7,7,7,7,7,7,7,7,7,7,7,7,7,7,7,7,7,7,8,8,8,8,8,8,8,8,8,8,8,8,8,8,8,8,8,8,8,8,8,8,8,8,8,8,8,8,8,8,8,8,8,8,8,8,8,8,8,8,8,8,8,8,8,8,8,8,8,8,8,8,8,8,8,8,8,8,8,8,8,8,8,8,8,8,8,8,8,8,8,8,8,8,8,8,8,8,8,8,8,8,8,8,8,8,8,8,8,8,8,8,8,8,8,8,8,8,8,8,8,8,8,8,8,8,8,8,8,8,8,8,8,8,8,8,8,8,8,8,8,8,8,8,8,8,8,8]⟩⟩
def f162_j1 (x_:Int) : Option (Int×Int) :=
 bif (decide (x_ ≥ (4294967296:Int))) then
 some ((Int.fdiv x_ (2 ^ min (Int.toNat (32:Int)) (IntKind.bits IntKind.u64))),(32:Int))
 else
 some (x_,(0:Int))
def f162_j2 (z1 : Int×Int) : Option (Int×Int) :=
 bif (decide (z1.1 ≥ (65536:Int))) then
 some ((Int.fdiv z1.1 (2 ^ min (Int.toNat (16:Int)) (IntKind.bits IntKind.u64))),(i64.wrap (z1.2 + (16:Int))))
 else
 some (z1.1,z1.2)
def f162_j3 (z2 : Int×Int) : Option (Int×Int) :=
 bif (decide (z2.1 ≥ (256:Int))) then
 some ((Int.fdiv z2.1 (2 ^ min (Int.toNat (8:Int)) (IntKind.bits IntKind.u64))),(i64.wrap (z2.2 + (8:Int))))
 else
 some (z2.1,z2.2)
def f162 (x_:Int) : Option Int :=
 bindF (f162_j1 x_) fun z1 =>
 bindF (f162_j2 z1) fun z2 =>
 bindF (f162_j3 z2) fun z3 =>
 guardF (0 ≤ (u8.wrap z3.1) ∧ (u8.wrap z3.1) < (ByteArray.size f162_s1:Int)) <|
 some (i64.wrap (z3.2 + (i64.wrap (bt f162_s1 (u8.wrap z3.1)))))
def C162 : Con where
 X := Int
 Y := Int
 e := 0
 args x := [.dat T10 x]
 hin x := []
 F x := f162 x
 ret y := [.dat T1 y]
 hout y := []
 nout := 0
theorem C162_vc (x_:Int) (y:Int) (hF : f162 x_ = some y) : VC Tryz.f162 C162 x_ y := by
 unfold f162 at hF
 refine OL ?_
 obtain ⟨z1,hz1,hF⟩ := bindE hF
 refine OQ ⟨[(0,⟨[(0,.dat T10 z1.1),(2,.dat T1 z1.2)],[],0⟩)],?_,?_⟩
 ·have hF := hz1
  clear hz1
  unfold f162_j1 at hF
  refine OL (condI hF (fun hF=>?_) (fun hF=>?_))
  ·refine OL (AI (by decide) ?_)
   have hz := someE hF
   subst hz
   refine E4 [] (R3 (AI TV TV))
  have hz := someE hF
  subst hz
  refine E4 [] (R3 (AI TV TV))
 refine AI ?_ TV
 obtain ⟨z2,hz2,hF⟩ := bindE hF
 refine OQ ⟨[(0,⟨[(0,.dat T10 z2.1),(2,.dat T1 z2.2)],[],0⟩)],?_,?_⟩
 ·have hF := hz2
  clear hz2
  unfold f162_j2 at hF
  refine OL (condI hF (fun hF=>?_) (fun hF=>?_))
  ·refine OL (AI (by decide) ?_)
   have hz := someE hF
   subst hz
   refine E4 [] (R3 (AI TV TV))
  have hz := someE hF
  subst hz
  refine E4 [] (R3 (AI TV TV))
 refine AI ?_ TV
 obtain ⟨z3,hz3,hF⟩ := bindE hF
 refine OQ ⟨[(0,⟨[(0,.dat T10 z3.1),(2,.dat T1 z3.2)],[],0⟩)],?_,?_⟩
 ·have hF := hz3
  clear hz3
  unfold f162_j3 at hF
  refine OL (condI hF (fun hF=>?_) (fun hF=>?_))
  ·refine OL (AI (by decide) ?_)
   have hz := someE hF
   subst hz
   refine E4 [] (R3 (AI TV TV))
  have hz := someE hF
  subst hz
  refine E4 [] (R3 (AI TV TV))
 refine AI (OL (guardI hF (fun hF=>?_))) TV
 have hy := someE hF
 subst hy
 refine AI rfl (E4 [] (R2 (AI TV TV)))
theorem C162_holds : C162.Holds Tryz.prog 162 := holds_of_vc tab_ok mixed (fn := Tryz.f162) (by kernel_rfl) rfl C162 (fun x y hF=>C162_vc x y hF)
theorem f162_in : InP 162 := ⟨Tryz.f162,by kernel_rfl,by kernel_rfl,by kernel_rfl⟩
def f226 (x_:Int) : Option Int :=
 bindF (f162 x_) fun r1 =>
 some (i64.wrap ((64:Int) - r1))
def C226 : Con where
 X := Int
 Y := Int
 e := 0
 args x := [.dat T10 x]
 hin x := []
 F x := f226 x
 ret y := [.dat T1 y]
 hout y := []
 nout := 0
theorem C226_vc (x_:Int) (y:Int) (hF : f226 x_ = some y) : VC Tryz.f226 C226 x_ y := by
 unfold f226 at hF
 refine OL (OL ?_)
 obtain ⟨r1,hr1,hF⟩ := bindE hF
 refine OL (AI f162_in (callV0 (callI C162 x_ r1 [] false C162_holds hr1 rfl rfl (AI rfl (AI (fun h=>nomatch h) (R2 (AI TV (AI TV ?_))))))))
 have hy := someE hF
 subst hy
 refine AI rfl (E4 [] (R2 (AI TV TV)))
theorem C226_holds : C226.Holds Tryz.prog 226 := holds_of_vc tab_ok mixed (fn := Tryz.f226) (by kernel_rfl) rfl C226 (fun x y hF=>C226_vc x y hF)
theorem f226_in : InP 226 := ⟨Tryz.f226,by kernel_rfl,by kernel_rfl,by kernel_rfl⟩
def f211_j4 (lo:Int) (y_:Int) (q6_7:Int) (q1:Int) (rhat:Int) : Option (Sum Unit Unit) :=
 bif (decide (q1 ≥ (4294967296:Int))) then
 some (Sum.inl ())
 else
 bif (decide ((u64.wrap (q1 * (bitsOf IntKind.u64 (fun p q=>p &&& q) (u64.wrap (y_ * 2 ^ min (Int.toNat (u64.wrap q6_7)) (IntKind.bits IntKind.u64))) (4294967295:Int)))) > (u64.wrap ((u64.wrap ((4294967296:Int) * rhat)) + (Int.fdiv (u64.wrap (lo * 2 ^ min (Int.toNat (u64.wrap q6_7)) (IntKind.bits IntKind.u64))) (2 ^ min (Int.toNat (32:Int)) (IntKind.bits IntKind.u64))))))) then
 some (Sum.inl ())
 else
 some (Sum.inr ())
def f211_l3 (lo:Int) (y_:Int) (q6_7:Int) (go : (Int×Int) → Option Int) (q1:Int) (rhat:Int) : Option Int :=
 bindF (f211_j4 lo y_ q6_7 q1 rhat) fun z4 =>
 sumF z4 (fun z4a =>
 bif (decide ((u64.wrap (rhat + (Int.fdiv (u64.wrap (y_ * 2 ^ min (Int.toNat (u64.wrap q6_7)) (IntKind.bits IntKind.u64))) (2 ^ min (Int.toNat (32:Int)) (IntKind.bits IntKind.u64))))) ≥ (4294967296:Int))) then
 some (u64.wrap (q1 - (1:Int)))
 else
 go ((u64.wrap (q1 - (1:Int))),(u64.wrap (rhat + (Int.fdiv (u64.wrap (y_ * 2 ^ min (Int.toNat (u64.wrap q6_7)) (IntKind.bits IntKind.u64))) (2 ^ min (Int.toNat (32:Int)) (IntKind.bits IntKind.u64))))))) (fun z4b =>
 some q1)
def f211_j8 (lo:Int) (y_:Int) (q6_7:Int) (rhat:Int) (q0:Int) : Option (Sum Unit Unit) :=
 bif (decide (q0 ≥ (4294967296:Int))) then
 some (Sum.inl ())
 else
 bif (decide ((u64.wrap (q0 * (bitsOf IntKind.u64 (fun p q=>p &&& q) (u64.wrap (y_ * 2 ^ min (Int.toNat (u64.wrap q6_7)) (IntKind.bits IntKind.u64))) (4294967295:Int)))) > (u64.wrap ((u64.wrap ((4294967296:Int) * rhat)) + (bitsOf IntKind.u64 (fun p q=>p &&& q) (u64.wrap (lo * 2 ^ min (Int.toNat (u64.wrap q6_7)) (IntKind.bits IntKind.u64))) (4294967295:Int)))))) then
 some (Sum.inl ())
 else
 some (Sum.inr ())
def f211_l7 (lo:Int) (y_:Int) (q6_7:Int) (go : (Int×Int) → Option Int) (rhat:Int) (q0:Int) : Option Int :=
 bindF (f211_j8 lo y_ q6_7 rhat q0) fun z8 =>
 sumF z8 (fun z8a =>
 bif (decide ((u64.wrap (rhat + (Int.fdiv (u64.wrap (y_ * 2 ^ min (Int.toNat (u64.wrap q6_7)) (IntKind.bits IntKind.u64))) (2 ^ min (Int.toNat (32:Int)) (IntKind.bits IntKind.u64))))) ≥ (4294967296:Int))) then
 some (u64.wrap (q0 - (1:Int)))
 else
 go ((u64.wrap (rhat + (Int.fdiv (u64.wrap (y_ * 2 ^ min (Int.toNat (u64.wrap q6_7)) (IntKind.bits IntKind.u64))) (2 ^ min (Int.toNat (32:Int)) (IntKind.bits IntKind.u64))))),(u64.wrap (q0 - (1:Int))))) (fun z8b =>
 some q0)
def f211 (hi:Int) (lo:Int) (y_:Int) : Option (Int×Int) :=
 bif (y_ == (0:Int)) then
 none
 else
 bif (decide (y_ ≤ hi)) then
 none
 else
 bif (hi == (0:Int)) then
 guardF (y_ ≠ 0) <|
 guardF (y_ ≠ 0) <|
 some ((u64.wrap (Int.tdiv lo y_)),(Int.tmod lo y_))
 else
 bindF (f226 y_) fun q6_7 =>
 guardF (0 ≤ (u64.wrap q6_7)) <|
 guardF (0 ≤ (u64.wrap q6_7)) <|
 guardF (0 ≤ (u64.wrap ((64:Int) - (u64.wrap q6_7)))) <|
 guardF (0 ≤ (u64.wrap q6_7)) <|
 guardF ((Int.fdiv (u64.wrap (y_ * 2 ^ min (Int.toNat (u64.wrap q6_7)) (IntKind.bits IntKind.u64))) (2 ^ min (Int.toNat (32:Int)) (IntKind.bits IntKind.u64))) ≠ 0) <|
 bindF (loopF (fun go x=>f211_l3 lo y_ q6_7 go x.1 x.2) fuelN ((u64.wrap (Int.tdiv (bitsOf IntKind.u64 (fun p q=>p ||| q) (u64.wrap (hi * 2 ^ min (Int.toNat (u64.wrap q6_7)) (IntKind.bits IntKind.u64))) (Int.fdiv lo (2 ^ min (Int.toNat (u64.wrap ((64:Int) - (u64.wrap q6_7)))) (IntKind.bits IntKind.u64)))) (Int.fdiv (u64.wrap (y_ * 2 ^ min (Int.toNat (u64.wrap q6_7)) (IntKind.bits IntKind.u64))) (2 ^ min (Int.toNat (32:Int)) (IntKind.bits IntKind.u64))))),(u64.wrap ((bitsOf IntKind.u64 (fun p q=>p ||| q) (u64.wrap (hi * 2 ^ min (Int.toNat (u64.wrap q6_7)) (IntKind.bits IntKind.u64))) (Int.fdiv lo (2 ^ min (Int.toNat (u64.wrap ((64:Int) - (u64.wrap q6_7)))) (IntKind.bits IntKind.u64)))) - (u64.wrap ((u64.wrap (Int.tdiv (bitsOf IntKind.u64 (fun p q=>p ||| q) (u64.wrap (hi * 2 ^ min (Int.toNat (u64.wrap q6_7)) (IntKind.bits IntKind.u64))) (Int.fdiv lo (2 ^ min (Int.toNat (u64.wrap ((64:Int) - (u64.wrap q6_7)))) (IntKind.bits IntKind.u64)))) (Int.fdiv (u64.wrap (y_ * 2 ^ min (Int.toNat (u64.wrap q6_7)) (IntKind.bits IntKind.u64))) (2 ^ min (Int.toNat (32:Int)) (IntKind.bits IntKind.u64))))) * (Int.fdiv (u64.wrap (y_ * 2 ^ min (Int.toNat (u64.wrap q6_7)) (IntKind.bits IntKind.u64))) (2 ^ min (Int.toNat (32:Int)) (IntKind.bits IntKind.u64))))))))) fun z3 =>
 guardF ((Int.fdiv (u64.wrap (y_ * 2 ^ min (Int.toNat (u64.wrap q6_7)) (IntKind.bits IntKind.u64))) (2 ^ min (Int.toNat (32:Int)) (IntKind.bits IntKind.u64))) ≠ 0) <|
 bindF (loopF (fun go x=>f211_l7 lo y_ q6_7 go x.1 x.2) fuelN ((u64.wrap ((u64.wrap ((u64.wrap ((u64.wrap ((bitsOf IntKind.u64 (fun p q=>p ||| q) (u64.wrap (hi * 2 ^ min (Int.toNat (u64.wrap q6_7)) (IntKind.bits IntKind.u64))) (Int.fdiv lo (2 ^ min (Int.toNat (u64.wrap ((64:Int) - (u64.wrap q6_7)))) (IntKind.bits IntKind.u64)))) * (4294967296:Int))) + (Int.fdiv (u64.wrap (lo * 2 ^ min (Int.toNat (u64.wrap q6_7)) (IntKind.bits IntKind.u64))) (2 ^ min (Int.toNat (32:Int)) (IntKind.bits IntKind.u64))))) - (u64.wrap (z3 * (u64.wrap (y_ * 2 ^ min (Int.toNat (u64.wrap q6_7)) (IntKind.bits IntKind.u64))))))) - (u64.wrap ((u64.wrap (Int.tdiv (u64.wrap ((u64.wrap ((u64.wrap ((bitsOf IntKind.u64 (fun p q=>p ||| q) (u64.wrap (hi * 2 ^ min (Int.toNat (u64.wrap q6_7)) (IntKind.bits IntKind.u64))) (Int.fdiv lo (2 ^ min (Int.toNat (u64.wrap ((64:Int) - (u64.wrap q6_7)))) (IntKind.bits IntKind.u64)))) * (4294967296:Int))) + (Int.fdiv (u64.wrap (lo * 2 ^ min (Int.toNat (u64.wrap q6_7)) (IntKind.bits IntKind.u64))) (2 ^ min (Int.toNat (32:Int)) (IntKind.bits IntKind.u64))))) - (u64.wrap (z3 * (u64.wrap (y_ * 2 ^ min (Int.toNat (u64.wrap q6_7)) (IntKind.bits IntKind.u64))))))) (Int.fdiv (u64.wrap (y_ * 2 ^ min (Int.toNat (u64.wrap q6_7)) (IntKind.bits IntKind.u64))) (2 ^ min (Int.toNat (32:Int)) (IntKind.bits IntKind.u64))))) * (Int.fdiv (u64.wrap (y_ * 2 ^ min (Int.toNat (u64.wrap q6_7)) (IntKind.bits IntKind.u64))) (2 ^ min (Int.toNat (32:Int)) (IntKind.bits IntKind.u64))))))),(u64.wrap (Int.tdiv (u64.wrap ((u64.wrap ((u64.wrap ((bitsOf IntKind.u64 (fun p q=>p ||| q) (u64.wrap (hi * 2 ^ min (Int.toNat (u64.wrap q6_7)) (IntKind.bits IntKind.u64))) (Int.fdiv lo (2 ^ min (Int.toNat (u64.wrap ((64:Int) - (u64.wrap q6_7)))) (IntKind.bits IntKind.u64)))) * (4294967296:Int))) + (Int.fdiv (u64.wrap (lo * 2 ^ min (Int.toNat (u64.wrap q6_7)) (IntKind.bits IntKind.u64))) (2 ^ min (Int.toNat (32:Int)) (IntKind.bits IntKind.u64))))) - (u64.wrap (z3 * (u64.wrap (y_ * 2 ^ min (Int.toNat (u64.wrap q6_7)) (IntKind.bits IntKind.u64))))))) (Int.fdiv (u64.wrap (y_ * 2 ^ min (Int.toNat (u64.wrap q6_7)) (IntKind.bits IntKind.u64))) (2 ^ min (Int.toNat (32:Int)) (IntKind.bits IntKind.u64))))))) fun z7 =>
 guardF (0 ≤ (u64.wrap q6_7)) <|
 some ((u64.wrap ((u64.wrap (z3 * (4294967296:Int))) + z7)),(Int.fdiv (u64.wrap ((u64.wrap ((u64.wrap ((u64.wrap ((u64.wrap ((u64.wrap ((bitsOf IntKind.u64 (fun p q=>p ||| q) (u64.wrap (hi * 2 ^ min (Int.toNat (u64.wrap q6_7)) (IntKind.bits IntKind.u64))) (Int.fdiv lo (2 ^ min (Int.toNat (u64.wrap ((64:Int) - (u64.wrap q6_7)))) (IntKind.bits IntKind.u64)))) * (4294967296:Int))) + (Int.fdiv (u64.wrap (lo * 2 ^ min (Int.toNat (u64.wrap q6_7)) (IntKind.bits IntKind.u64))) (2 ^ min (Int.toNat (32:Int)) (IntKind.bits IntKind.u64))))) - (u64.wrap (z3 * (u64.wrap (y_ * 2 ^ min (Int.toNat (u64.wrap q6_7)) (IntKind.bits IntKind.u64))))))) * (4294967296:Int))) + (bitsOf IntKind.u64 (fun p q=>p &&& q) (u64.wrap (lo * 2 ^ min (Int.toNat (u64.wrap q6_7)) (IntKind.bits IntKind.u64))) (4294967295:Int)))) - (u64.wrap (z7 * (u64.wrap (y_ * 2 ^ min (Int.toNat (u64.wrap q6_7)) (IntKind.bits IntKind.u64))))))) (2 ^ min (Int.toNat (u64.wrap q6_7)) (IntKind.bits IntKind.u64))))
def C211 : Con where
 X := Int×Int×Int
 Y := Int×Int
 e := 0
 args x := [.dat T10 x.1,.dat T10 x.2.1,.dat T10 x.2.2]
 hin x := []
 F x := f211 x.1 x.2.1 x.2.2
 ret y := [.dat T10 y.1,.dat T10 y.2]
 hout y := []
 nout := 0
theorem C211_vc (hi:Int) (lo:Int) (y_:Int) (y : Int×Int) (hF : f211 hi lo y_ = some y) : VC Tryz.f211 C211 (hi,lo,y_) y := by
 unfold f211 at hF
 refine OL (OL (OL (condI hF (fun hF=>?_) (fun hF=>?_))))
 ·exact nomatch hF
 refine OL (OL (condI hF (fun hF=>?_) (fun hF=>?_)))
 ·exact nomatch hF
 refine OL (OL (condI hF (fun hF=>?_) (fun hF=>?_)))
 ·refine OL (EI (.take 0 (.take 1 (.take 2 (.take 3 (.take 4 (.take 5 (.take 6 (.take 7 .done)))))))) (EI [] (EI [] (AI rfl (guardI hF (fun hF=>?_))))))
  refine guardI hF (fun hF=>?_)
  have hy := someE hF
  subst hy
  refine AI rfl (E4 [] (R3 (AI TV TV)))
 refine OL ?_
 obtain ⟨q6_7,hq6_7,hF⟩ := bindE hF
 refine OL (AI f226_in (callV0 (callI C226 y_ q6_7 [] false C226_holds hq6_7 rfl rfl (AI rfl (AI (fun h=>nomatch h) (R2 (AI TV (AI TV (OL (guardI hF (fun hF=>?_)))))))))))
 refine OL (AI (by decide) (OL (OL (guardI hF (fun hF=>?_)))))
 refine guardI hF (fun hF=>?_)
 refine OL (guardI hF (fun hF=>?_))
 refine OL (AI (by decide) (OL (OL (guardI hF (fun hF=>?_)))))
 refine OL (OL ?_)
 obtain ⟨z3,hz3,hF⟩ := bindE hF
 refine loopI (Int×Int) Int (fun x=>⟨[(2,.dat T10 (u64.wrap (y_ * 2 ^ min (Int.toNat (u64.wrap q6_7)) (IntKind.bits IntKind.u64)))),(8,.dat T10 (u64.wrap q6_7)),(9,.dat T10 (Int.fdiv (u64.wrap (y_ * 2 ^ min (Int.toNat (u64.wrap q6_7)) (IntKind.bits IntKind.u64))) (2 ^ min (Int.toNat (32:Int)) (IntKind.bits IntKind.u64)))),(10,.dat T10 (bitsOf IntKind.u64 (fun p q=>p &&& q) (u64.wrap (y_ * 2 ^ min (Int.toNat (u64.wrap q6_7)) (IntKind.bits IntKind.u64))) (4294967295:Int))),(11,.dat T10 (bitsOf IntKind.u64 (fun p q=>p ||| q) (u64.wrap (hi * 2 ^ min (Int.toNat (u64.wrap q6_7)) (IntKind.bits IntKind.u64))) (Int.fdiv lo (2 ^ min (Int.toNat (u64.wrap ((64:Int) - (u64.wrap q6_7)))) (IntKind.bits IntKind.u64))))),(13,.dat T10 (Int.fdiv (u64.wrap (lo * 2 ^ min (Int.toNat (u64.wrap q6_7)) (IntKind.bits IntKind.u64))) (2 ^ min (Int.toNat (32:Int)) (IntKind.bits IntKind.u64)))),(14,.dat T10 (bitsOf IntKind.u64 (fun p q=>p &&& q) (u64.wrap (lo * 2 ^ min (Int.toNat (u64.wrap q6_7)) (IntKind.bits IntKind.u64))) (4294967295:Int))),(15,.dat T10 x.1),(16,.dat T10 x.2)],[],0⟩) (fun z=>[(2,⟨[(2,.dat T10 (u64.wrap (y_ * 2 ^ min (Int.toNat (u64.wrap q6_7)) (IntKind.bits IntKind.u64)))),(8,.dat T10 (u64.wrap q6_7)),(9,.dat T10 (Int.fdiv (u64.wrap (y_ * 2 ^ min (Int.toNat (u64.wrap q6_7)) (IntKind.bits IntKind.u64))) (2 ^ min (Int.toNat (32:Int)) (IntKind.bits IntKind.u64)))),(10,.dat T10 (bitsOf IntKind.u64 (fun p q=>p &&& q) (u64.wrap (y_ * 2 ^ min (Int.toNat (u64.wrap q6_7)) (IntKind.bits IntKind.u64))) (4294967295:Int))),(11,.dat T10 (bitsOf IntKind.u64 (fun p q=>p ||| q) (u64.wrap (hi * 2 ^ min (Int.toNat (u64.wrap q6_7)) (IntKind.bits IntKind.u64))) (Int.fdiv lo (2 ^ min (Int.toNat (u64.wrap ((64:Int) - (u64.wrap q6_7)))) (IntKind.bits IntKind.u64))))),(13,.dat T10 (Int.fdiv (u64.wrap (lo * 2 ^ min (Int.toNat (u64.wrap q6_7)) (IntKind.bits IntKind.u64))) (2 ^ min (Int.toNat (32:Int)) (IntKind.bits IntKind.u64)))),(14,.dat T10 (bitsOf IntKind.u64 (fun p q=>p &&& q) (u64.wrap (lo * 2 ^ min (Int.toNat (u64.wrap q6_7)) (IntKind.bits IntKind.u64))) (4294967295:Int))),(15,.dat T10 z)],[],0⟩)]) (loopF (fun go x=>f211_l3 lo y_ q6_7 go x.1 x.2)) fuelN ((u64.wrap (Int.tdiv (bitsOf IntKind.u64 (fun p q=>p ||| q) (u64.wrap (hi * 2 ^ min (Int.toNat (u64.wrap q6_7)) (IntKind.bits IntKind.u64))) (Int.fdiv lo (2 ^ min (Int.toNat (u64.wrap ((64:Int) - (u64.wrap q6_7)))) (IntKind.bits IntKind.u64)))) (Int.fdiv (u64.wrap (y_ * 2 ^ min (Int.toNat (u64.wrap q6_7)) (IntKind.bits IntKind.u64))) (2 ^ min (Int.toNat (32:Int)) (IntKind.bits IntKind.u64))))),(u64.wrap ((bitsOf IntKind.u64 (fun p q=>p ||| q) (u64.wrap (hi * 2 ^ min (Int.toNat (u64.wrap q6_7)) (IntKind.bits IntKind.u64))) (Int.fdiv lo (2 ^ min (Int.toNat (u64.wrap ((64:Int) - (u64.wrap q6_7)))) (IntKind.bits IntKind.u64)))) - (u64.wrap ((u64.wrap (Int.tdiv (bitsOf IntKind.u64 (fun p q=>p ||| q) (u64.wrap (hi * 2 ^ min (Int.toNat (u64.wrap q6_7)) (IntKind.bits IntKind.u64))) (Int.fdiv lo (2 ^ min (Int.toNat (u64.wrap ((64:Int) - (u64.wrap q6_7)))) (IntKind.bits IntKind.u64)))) (Int.fdiv (u64.wrap (y_ * 2 ^ min (Int.toNat (u64.wrap q6_7)) (IntKind.bits IntKind.u64))) (2 ^ min (Int.toNat (32:Int)) (IntKind.bits IntKind.u64))))) * (Int.fdiv (u64.wrap (y_ * 2 ^ min (Int.toNat (u64.wrap q6_7)) (IntKind.bits IntKind.u64))) (2 ^ min (Int.toNat (32:Int)) (IntKind.bits IntKind.u64)))))))) z3 (AI hz3 (AI (E4 [] (R10 (AI TV TV))) (AI (fun _ _ h=>loopZ h) (AI (fun m=>curI (fun q1=>fun rhat z hF=>?_)) ?_))))
 ·have hF : f211_l3 lo y_ q6_7 (loopF (fun go x=>f211_l3 lo y_ q6_7 go x.1 x.2) m) q1 rhat = some z := hF
  unfold f211_l3 at hF
  obtain ⟨z4,hz4,hF⟩ := bindE hF
  refine OQ ⟨Sum.elim (fun z4a=>[(0,⟨[(2,.dat T10 (u64.wrap (y_ * 2 ^ min (Int.toNat (u64.wrap q6_7)) (IntKind.bits IntKind.u64)))),(8,.dat T10 (u64.wrap q6_7)),(9,.dat T10 (Int.fdiv (u64.wrap (y_ * 2 ^ min (Int.toNat (u64.wrap q6_7)) (IntKind.bits IntKind.u64))) (2 ^ min (Int.toNat (32:Int)) (IntKind.bits IntKind.u64)))),(10,.dat T10 (bitsOf IntKind.u64 (fun p q=>p &&& q) (u64.wrap (y_ * 2 ^ min (Int.toNat (u64.wrap q6_7)) (IntKind.bits IntKind.u64))) (4294967295:Int))),(11,.dat T10 (bitsOf IntKind.u64 (fun p q=>p ||| q) (u64.wrap (hi * 2 ^ min (Int.toNat (u64.wrap q6_7)) (IntKind.bits IntKind.u64))) (Int.fdiv lo (2 ^ min (Int.toNat (u64.wrap ((64:Int) - (u64.wrap q6_7)))) (IntKind.bits IntKind.u64))))),(13,.dat T10 (Int.fdiv (u64.wrap (lo * 2 ^ min (Int.toNat (u64.wrap q6_7)) (IntKind.bits IntKind.u64))) (2 ^ min (Int.toNat (32:Int)) (IntKind.bits IntKind.u64)))),(14,.dat T10 (bitsOf IntKind.u64 (fun p q=>p &&& q) (u64.wrap (lo * 2 ^ min (Int.toNat (u64.wrap q6_7)) (IntKind.bits IntKind.u64))) (4294967295:Int))),(15,.dat T10 q1),(16,.dat T10 rhat)],[],0⟩)]) (fun z4b=>[(2,⟨[(2,.dat T10 (u64.wrap (y_ * 2 ^ min (Int.toNat (u64.wrap q6_7)) (IntKind.bits IntKind.u64)))),(8,.dat T10 (u64.wrap q6_7)),(9,.dat T10 (Int.fdiv (u64.wrap (y_ * 2 ^ min (Int.toNat (u64.wrap q6_7)) (IntKind.bits IntKind.u64))) (2 ^ min (Int.toNat (32:Int)) (IntKind.bits IntKind.u64)))),(10,.dat T10 (bitsOf IntKind.u64 (fun p q=>p &&& q) (u64.wrap (y_ * 2 ^ min (Int.toNat (u64.wrap q6_7)) (IntKind.bits IntKind.u64))) (4294967295:Int))),(11,.dat T10 (bitsOf IntKind.u64 (fun p q=>p ||| q) (u64.wrap (hi * 2 ^ min (Int.toNat (u64.wrap q6_7)) (IntKind.bits IntKind.u64))) (Int.fdiv lo (2 ^ min (Int.toNat (u64.wrap ((64:Int) - (u64.wrap q6_7)))) (IntKind.bits IntKind.u64))))),(13,.dat T10 (Int.fdiv (u64.wrap (lo * 2 ^ min (Int.toNat (u64.wrap q6_7)) (IntKind.bits IntKind.u64))) (2 ^ min (Int.toNat (32:Int)) (IntKind.bits IntKind.u64)))),(14,.dat T10 (bitsOf IntKind.u64 (fun p q=>p &&& q) (u64.wrap (lo * 2 ^ min (Int.toNat (u64.wrap q6_7)) (IntKind.bits IntKind.u64))) (4294967295:Int))),(15,.dat T10 q1)],[],0⟩)]) z4,?_,?_⟩
  ·have hF := hz4
   clear hz4
   unfold f211_j4 at hF
   refine OL (condN hF (fun hF=>?_) (fun hF=>?_))
   ·refine gdYF (gdYF (gdYF (gdYF (gdYF (gdYF (gdYF (condF (condI hF (fun hF=>?_) (fun hF=>?_)))))))))
    ·have hz := someE hF
     subst hz
     refine E4 [] (R10 (AI TV TV))
    have hz := someE hF
    subst hz
    refine E4 [] (R9 (AI TV TV))
   refine gdNF (gdNF (gdNF (gdNF (gdNF (gdNF (gdNF (condT (condT ?_))))))))
   have hz := someE hF
   subst hz
   refine E4 [] (R10 (AI TV TV))
  rcases z4 with z4a | z4b
  ·dsimp only [sumF] at hF
   refine AI (OL (OL (OL (condI hF (fun hF=>?_) (fun hF=>?_))))) TV
   ·have hz := someE hF
    subst hz
    refine E4 [] (R9 (AI TV TV))
   refine EI ((u64.wrap (q1 - (1:Int))),(u64.wrap (rhat + (Int.fdiv (u64.wrap (y_ * 2 ^ min (Int.toNat (u64.wrap q6_7)) (IntKind.bits IntKind.u64))) (2 ^ min (Int.toNat (32:Int)) (IntKind.bits IntKind.u64)))))) (AI hF (E4 [] (R10 (AI TV TV))))
  dsimp only [sumF] at hF
  refine AI ?_ TV
  have hz := someE hF
  subst hz
  refine E4 [] (R9 (AI TV TV))
 refine AI (OL (OL (guardI hF (fun hF=>?_)))) TV
 refine OL (OL ?_)
 obtain ⟨z7,hz7,hF⟩ := bindE hF
 refine loopI (Int×Int) Int (fun x=>⟨[(2,.dat T10 (u64.wrap (y_ * 2 ^ min (Int.toNat (u64.wrap q6_7)) (IntKind.bits IntKind.u64)))),(8,.dat T10 (u64.wrap q6_7)),(9,.dat T10 (Int.fdiv (u64.wrap (y_ * 2 ^ min (Int.toNat (u64.wrap q6_7)) (IntKind.bits IntKind.u64))) (2 ^ min (Int.toNat (32:Int)) (IntKind.bits IntKind.u64)))),(10,.dat T10 (bitsOf IntKind.u64 (fun p q=>p &&& q) (u64.wrap (y_ * 2 ^ min (Int.toNat (u64.wrap q6_7)) (IntKind.bits IntKind.u64))) (4294967295:Int))),(14,.dat T10 (bitsOf IntKind.u64 (fun p q=>p &&& q) (u64.wrap (lo * 2 ^ min (Int.toNat (u64.wrap q6_7)) (IntKind.bits IntKind.u64))) (4294967295:Int))),(15,.dat T10 z3),(16,.dat T10 x.1),(17,.dat T10 (u64.wrap ((u64.wrap ((u64.wrap ((bitsOf IntKind.u64 (fun p q=>p ||| q) (u64.wrap (hi * 2 ^ min (Int.toNat (u64.wrap q6_7)) (IntKind.bits IntKind.u64))) (Int.fdiv lo (2 ^ min (Int.toNat (u64.wrap ((64:Int) - (u64.wrap q6_7)))) (IntKind.bits IntKind.u64)))) * (4294967296:Int))) + (Int.fdiv (u64.wrap (lo * 2 ^ min (Int.toNat (u64.wrap q6_7)) (IntKind.bits IntKind.u64))) (2 ^ min (Int.toNat (32:Int)) (IntKind.bits IntKind.u64))))) - (u64.wrap (z3 * (u64.wrap (y_ * 2 ^ min (Int.toNat (u64.wrap q6_7)) (IntKind.bits IntKind.u64)))))))),(18,.dat T10 x.2)],[],0⟩) (fun z=>[(4,⟨[(2,.dat T10 (u64.wrap (y_ * 2 ^ min (Int.toNat (u64.wrap q6_7)) (IntKind.bits IntKind.u64)))),(8,.dat T10 (u64.wrap q6_7)),(14,.dat T10 (bitsOf IntKind.u64 (fun p q=>p &&& q) (u64.wrap (lo * 2 ^ min (Int.toNat (u64.wrap q6_7)) (IntKind.bits IntKind.u64))) (4294967295:Int))),(15,.dat T10 z3),(17,.dat T10 (u64.wrap ((u64.wrap ((u64.wrap ((bitsOf IntKind.u64 (fun p q=>p ||| q) (u64.wrap (hi * 2 ^ min (Int.toNat (u64.wrap q6_7)) (IntKind.bits IntKind.u64))) (Int.fdiv lo (2 ^ min (Int.toNat (u64.wrap ((64:Int) - (u64.wrap q6_7)))) (IntKind.bits IntKind.u64)))) * (4294967296:Int))) + (Int.fdiv (u64.wrap (lo * 2 ^ min (Int.toNat (u64.wrap q6_7)) (IntKind.bits IntKind.u64))) (2 ^ min (Int.toNat (32:Int)) (IntKind.bits IntKind.u64))))) - (u64.wrap (z3 * (u64.wrap (y_ * 2 ^ min (Int.toNat (u64.wrap q6_7)) (IntKind.bits IntKind.u64)))))))),(18,.dat T10 z)],[],0⟩)]) (loopF (fun go x=>f211_l7 lo y_ q6_7 go x.1 x.2)) fuelN ((u64.wrap ((u64.wrap ((u64.wrap ((u64.wrap ((bitsOf IntKind.u64 (fun p q=>p ||| q) (u64.wrap (hi * 2 ^ min (Int.toNat (u64.wrap q6_7)) (IntKind.bits IntKind.u64))) (Int.fdiv lo (2 ^ min (Int.toNat (u64.wrap ((64:Int) - (u64.wrap q6_7)))) (IntKind.bits IntKind.u64)))) * (4294967296:Int))) + (Int.fdiv (u64.wrap (lo * 2 ^ min (Int.toNat (u64.wrap q6_7)) (IntKind.bits IntKind.u64))) (2 ^ min (Int.toNat (32:Int)) (IntKind.bits IntKind.u64))))) - (u64.wrap (z3 * (u64.wrap (y_ * 2 ^ min (Int.toNat (u64.wrap q6_7)) (IntKind.bits IntKind.u64))))))) - (u64.wrap ((u64.wrap (Int.tdiv (u64.wrap ((u64.wrap ((u64.wrap ((bitsOf IntKind.u64 (fun p q=>p ||| q) (u64.wrap (hi * 2 ^ min (Int.toNat (u64.wrap q6_7)) (IntKind.bits IntKind.u64))) (Int.fdiv lo (2 ^ min (Int.toNat (u64.wrap ((64:Int) - (u64.wrap q6_7)))) (IntKind.bits IntKind.u64)))) * (4294967296:Int))) + (Int.fdiv (u64.wrap (lo * 2 ^ min (Int.toNat (u64.wrap q6_7)) (IntKind.bits IntKind.u64))) (2 ^ min (Int.toNat (32:Int)) (IntKind.bits IntKind.u64))))) - (u64.wrap (z3 * (u64.wrap (y_ * 2 ^ min (Int.toNat (u64.wrap q6_7)) (IntKind.bits IntKind.u64))))))) (Int.fdiv (u64.wrap (y_ * 2 ^ min (Int.toNat (u64.wrap q6_7)) (IntKind.bits IntKind.u64))) (2 ^ min (Int.toNat (32:Int)) (IntKind.bits IntKind.u64))))) * (Int.fdiv (u64.wrap (y_ * 2 ^ min (Int.toNat (u64.wrap q6_7)) (IntKind.bits IntKind.u64))) (2 ^ min (Int.toNat (32:Int)) (IntKind.bits IntKind.u64))))))),(u64.wrap (Int.tdiv (u64.wrap ((u64.wrap ((u64.wrap ((bitsOf IntKind.u64 (fun p q=>p ||| q) (u64.wrap (hi * 2 ^ min (Int.toNat (u64.wrap q6_7)) (IntKind.bits IntKind.u64))) (Int.fdiv lo (2 ^ min (Int.toNat (u64.wrap ((64:Int) - (u64.wrap q6_7)))) (IntKind.bits IntKind.u64)))) * (4294967296:Int))) + (Int.fdiv (u64.wrap (lo * 2 ^ min (Int.toNat (u64.wrap q6_7)) (IntKind.bits IntKind.u64))) (2 ^ min (Int.toNat (32:Int)) (IntKind.bits IntKind.u64))))) - (u64.wrap (z3 * (u64.wrap (y_ * 2 ^ min (Int.toNat (u64.wrap q6_7)) (IntKind.bits IntKind.u64))))))) (Int.fdiv (u64.wrap (y_ * 2 ^ min (Int.toNat (u64.wrap q6_7)) (IntKind.bits IntKind.u64))) (2 ^ min (Int.toNat (32:Int)) (IntKind.bits IntKind.u64)))))) z7 (AI hz7 (AI (E4 [] (R10 (AI TV TV))) (AI (fun _ _ h=>loopZ h) (AI (fun m=>curI (fun rhat=>fun q0 z hF=>?_)) ?_))))
 ·have hF : f211_l7 lo y_ q6_7 (loopF (fun go x=>f211_l7 lo y_ q6_7 go x.1 x.2) m) rhat q0 = some z := hF
  unfold f211_l7 at hF
  obtain ⟨z8,hz8,hF⟩ := bindE hF
  refine OQ ⟨Sum.elim (fun z8a=>[(0,⟨[(2,.dat T10 (u64.wrap (y_ * 2 ^ min (Int.toNat (u64.wrap q6_7)) (IntKind.bits IntKind.u64)))),(8,.dat T10 (u64.wrap q6_7)),(9,.dat T10 (Int.fdiv (u64.wrap (y_ * 2 ^ min (Int.toNat (u64.wrap q6_7)) (IntKind.bits IntKind.u64))) (2 ^ min (Int.toNat (32:Int)) (IntKind.bits IntKind.u64)))),(10,.dat T10 (bitsOf IntKind.u64 (fun p q=>p &&& q) (u64.wrap (y_ * 2 ^ min (Int.toNat (u64.wrap q6_7)) (IntKind.bits IntKind.u64))) (4294967295:Int))),(14,.dat T10 (bitsOf IntKind.u64 (fun p q=>p &&& q) (u64.wrap (lo * 2 ^ min (Int.toNat (u64.wrap q6_7)) (IntKind.bits IntKind.u64))) (4294967295:Int))),(15,.dat T10 z3),(16,.dat T10 rhat),(17,.dat T10 (u64.wrap ((u64.wrap ((u64.wrap ((bitsOf IntKind.u64 (fun p q=>p ||| q) (u64.wrap (hi * 2 ^ min (Int.toNat (u64.wrap q6_7)) (IntKind.bits IntKind.u64))) (Int.fdiv lo (2 ^ min (Int.toNat (u64.wrap ((64:Int) - (u64.wrap q6_7)))) (IntKind.bits IntKind.u64)))) * (4294967296:Int))) + (Int.fdiv (u64.wrap (lo * 2 ^ min (Int.toNat (u64.wrap q6_7)) (IntKind.bits IntKind.u64))) (2 ^ min (Int.toNat (32:Int)) (IntKind.bits IntKind.u64))))) - (u64.wrap (z3 * (u64.wrap (y_ * 2 ^ min (Int.toNat (u64.wrap q6_7)) (IntKind.bits IntKind.u64)))))))),(18,.dat T10 q0)],[],0⟩)]) (fun z8b=>[(4,⟨[(2,.dat T10 (u64.wrap (y_ * 2 ^ min (Int.toNat (u64.wrap q6_7)) (IntKind.bits IntKind.u64)))),(8,.dat T10 (u64.wrap q6_7)),(14,.dat T10 (bitsOf IntKind.u64 (fun p q=>p &&& q) (u64.wrap (lo * 2 ^ min (Int.toNat (u64.wrap q6_7)) (IntKind.bits IntKind.u64))) (4294967295:Int))),(15,.dat T10 z3),(17,.dat T10 (u64.wrap ((u64.wrap ((u64.wrap ((bitsOf IntKind.u64 (fun p q=>p ||| q) (u64.wrap (hi * 2 ^ min (Int.toNat (u64.wrap q6_7)) (IntKind.bits IntKind.u64))) (Int.fdiv lo (2 ^ min (Int.toNat (u64.wrap ((64:Int) - (u64.wrap q6_7)))) (IntKind.bits IntKind.u64)))) * (4294967296:Int))) + (Int.fdiv (u64.wrap (lo * 2 ^ min (Int.toNat (u64.wrap q6_7)) (IntKind.bits IntKind.u64))) (2 ^ min (Int.toNat (32:Int)) (IntKind.bits IntKind.u64))))) - (u64.wrap (z3 * (u64.wrap (y_ * 2 ^ min (Int.toNat (u64.wrap q6_7)) (IntKind.bits IntKind.u64)))))))),(18,.dat T10 q0)],[],0⟩)]) z8,?_,?_⟩
  ·have hF := hz8
   clear hz8
   unfold f211_j8 at hF
   refine OL (condN hF (fun hF=>?_) (fun hF=>?_))
   ·refine gdYF (gdYF (gdYF (gdYF (gdYF (gdYF (gdYF (condF (condI hF (fun hF=>?_) (fun hF=>?_)))))))))
    ·have hz := someE hF
     subst hz
     refine E4 [] (R10 (AI TV TV))
    have hz := someE hF
    subst hz
    refine E4 [] (R7 (AI TV TV))
   refine gdNF (gdNF (gdNF (gdNF (gdNF (gdNF (gdNF (condT (condT ?_))))))))
   have hz := someE hF
   subst hz
   refine E4 [] (R10 (AI TV TV))
  rcases z8 with z8a | z8b
  ·dsimp only [sumF] at hF
   refine AI (OL (OL (OL (condI hF (fun hF=>?_) (fun hF=>?_))))) TV
   ·have hz := someE hF
    subst hz
    refine E4 [] (R7 (AI TV TV))
   refine EI ((u64.wrap (rhat + (Int.fdiv (u64.wrap (y_ * 2 ^ min (Int.toNat (u64.wrap q6_7)) (IntKind.bits IntKind.u64))) (2 ^ min (Int.toNat (32:Int)) (IntKind.bits IntKind.u64))))),(u64.wrap (q0 - (1:Int)))) (AI hF (E4 [] (R10 (AI TV TV))))
  dsimp only [sumF] at hF
  refine AI ?_ TV
  have hz := someE hF
  subst hz
  refine E4 [] (R7 (AI TV TV))
 refine AI (OL (guardI hF (fun hF=>?_))) TV
 have hy := someE hF
 subst hy
 refine AI rfl (E4 [] (R3 (AI TV TV)))
theorem C211_holds : C211.Holds Tryz.prog 211 := holds_of_vc tab_ok mixed (fn := Tryz.f211) (by kernel_rfl) rfl C211 (fun x y hF=>C211_vc x.1 x.2.1 x.2.2 y hF)
theorem f211_in : InP 211 := ⟨Tryz.f211,by kernel_rfl,by kernel_rfl,by kernel_rfl⟩
def f207_j3 (r2:Int) (r4 : Int×Int) : Option Bool :=
 bif (decide (r4.2 > (u64.wrap (r2 - r4.2)))) then
 some true
 else
 bif (r4.2 == (u64.wrap (r2 - r4.2))) then
 some ((bitsOf IntKind.u64 (fun p q=>p &&& q) r4.1 (1:Int)) == (1:Int))
 else
 some false
def f207_j2 (r2:Int) (r4 : Int×Int) : Option (Int×Int) :=
 bindF (f207_j3 r2 r4) fun z8 =>
 bif z8 then
 bindF (add64 r4.1 (1:Int) (0:Int)) fun r9 =>
 some (r9.1,r9.2)
 else
 some (r4.1,(0:Int))
def f207 (a:Int) (b:Int) : Option Int :=
 bif (b == (0:Int)) then
 bif (decide (a > (0:Int))) then
 some (9223372036854775807:Int)
 else
 bif (decide (a < (0:Int))) then
 some (-9223372036854775808:Int)
 else
 some (0:Int)
 else
 bindF (f198 a) fun r1 =>
 bindF (f198 b) fun r2 =>
 bif (decide ((Int.fdiv r1 (2 ^ min (Int.toNat (32:Int)) (IntKind.bits IntKind.u64))) ≥ r2)) then
 bindF (f200 (1:Int) (0:Int) (!((decide (a < (0:Int))) == (decide (b < (0:Int)))))) fun r3 =>
 some r3
 else
 bindF (f211 (Int.fdiv r1 (2 ^ min (Int.toNat (32:Int)) (IntKind.bits IntKind.u64))) (u64.wrap (r1 * 2 ^ min (Int.toNat (32:Int)) (IntKind.bits IntKind.u64))) r2) fun r4 =>
 bindF (f207_j2 r2 r4) fun z7 =>
 bindF (f200 z7.2 z7.1 (!((decide (a < (0:Int))) == (decide (b < (0:Int)))))) fun r10 =>
 some r10
def C207 : Con where
 X := Int×Int
 Y := Int
 e := 0
 args x := [.dat T1 x.1,.dat T1 x.2]
 hin x := []
 F x := f207 x.1 x.2
 ret y := [.dat T1 y]
 hout y := []
 nout := 0
theorem C207_vc (a:Int) (b:Int) (y:Int) (hF : f207 a b = some y) : VC Tryz.f207 C207 (a,b) y := by
 unfold f207 at hF
 refine OL (OL (OL (condI hF (fun hF=>?_) (fun hF=>?_))))
 ·refine OL (OL (condI hF (fun hF=>?_) (fun hF=>?_)))
  ·refine OL ?_
   have hy := someE hF
   subst hy
   refine AI rfl (E4 [] (R2 (AI TV TV)))
  refine OL (condI hF (fun hF=>?_) (fun hF=>?_))
  ·refine OL ?_
   have hy := someE hF
   subst hy
   refine AI rfl (E4 [] (R2 (AI TV TV)))
  refine OL ?_
  have hy := someE hF
  subst hy
  refine AI rfl (E4 [] (R2 (AI TV TV)))
 refine OL ?_
 obtain ⟨r1,hr1,hF⟩ := bindE hF
 refine OL (AI f198_in (callV0 (callI C198 a r1 [] false C198_holds hr1 rfl rfl (AI rfl (AI (fun h=>nomatch h) (R2 (AI TV (AI TV ?_))))))))
 obtain ⟨r2,hr2,hF⟩ := bindE hF
 refine OL (AI f198_in (callV0 (callI C198 b r2 [] false C198_holds hr2 rfl rfl (AI rfl (AI (fun h=>nomatch h) (R2 (AI TV (AI TV (OL (OL (AI (by decide) (AI (by decide) (OL (OL (condI hF (fun hF=>?_) (fun hF=>?_))))))))))))))))
 ·refine OL ?_
  obtain ⟨r3,hr3,hF⟩ := bindE hF
  refine OL (AI f200_in (callV0 (callI C200 ((1:Int),(0:Int),(!((decide (a < (0:Int))) == (decide (b < (0:Int)))))) r3 [] false C200_holds hr3 rfl rfl (R3 (AI (fun h=>nomatch h) (R2 (AI TV (AI TV ?_))))))))
  have hy := someE hF
  subst hy
  refine AI rfl (E4 [] (R2 (AI TV TV)))
 refine OL ?_
 obtain ⟨r4,hr4,hF⟩ := bindE hF
 refine OL (AI f211_in (callV0 (callI C211 ((Int.fdiv r1 (2 ^ min (Int.toNat (32:Int)) (IntKind.bits IntKind.u64))),(u64.wrap (r1 * 2 ^ min (Int.toNat (32:Int)) (IntKind.bits IntKind.u64))),r2) r4 [] false C211_holds hr4 rfl rfl (R3 (AI (fun h=>nomatch h) (R2 (AI TV (AI TV (OL ?_)))))))))
 obtain ⟨z7,hz7,hF⟩ := bindE hF
 refine OQ ⟨[(0,⟨[(7,.dat .bool (!((decide (a < (0:Int))) == (decide (b < (0:Int)))))),(10,.dat T10 z7.1),(12,.dat T10 z7.2)],[],0⟩)],?_,?_⟩
 ·have hF := hz7
  clear hz7
  unfold f207_j2 at hF
  obtain ⟨z8,hz8,hF⟩ := bindE hF
  refine OQ ⟨[(0,⟨[(7,.dat .bool (!((decide (a < (0:Int))) == (decide (b < (0:Int)))))),(10,.dat T10 r4.1),(12,.dat T10 (0:Int)),(62,.dat .bool z8)],[],0⟩)],?_,?_⟩
  ·have hF := hz8
   clear hz8
   unfold f207_j3 at hF
   refine condN hF (fun hF=>?_) (fun hF=>?_)
   ·refine gdYF (gdYF (gdYF (gdYF (gdYF (condI hF (fun hF=>?_) (fun hF=>?_))))))
    ·refine gdYT (gdYT (gdYF (condT (condF ?_))))
     have hz := someE hF
     subst hz
     refine E4 [] (R5 (AI TV TV))
    refine gdNT (gdNT (gdYF (condF (condF ?_))))
    have hz := someE hF
    subst hz
    refine E4 [] (R5 (AI TV TV))
   refine gdNF (gdNF (gdNF (gdNF (gdNF (gdNF (condT ?_))))))
   have hz := someE hF
   subst hz
   refine E4 [] (R5 (AI TV TV))
  refine AI (condI hF (fun hF=>?_) (fun hF=>?_)) TV
  ·obtain ⟨r9,hr9,hF⟩ := bindE hF
   refine OQ ⟨ext3 add64,[r9.1,r9.2],add64_ok,AI (ext3I hr9) ?_⟩
   have hz := someE hF
   subst hz
   refine E4 [] (R4 (AI TV TV))
  have hz := someE hF
  subst hz
  refine E4 [] (R4 (AI TV TV))
 refine AI (OL ?_) TV
 obtain ⟨r10,hr10,hF⟩ := bindE hF
 refine OL (AI f200_in (callV0 (callI C200 (z7.2,z7.1,(!((decide (a < (0:Int))) == (decide (b < (0:Int)))))) r10 [] false C200_holds hr10 rfl rfl (R3 (AI (fun h=>nomatch h) (R2 (AI TV (AI TV ?_))))))))
 have hy := someE hF
 subst hy
 refine AI rfl (E4 [] (R2 (AI TV TV)))
theorem C207_holds : C207.Holds Tryz.prog 207 := holds_of_vc tab_ok mixed (fn := Tryz.f207) (by kernel_rfl) rfl C207 (fun x y hF=>C207_vc x.1 x.2 y hF)
theorem f207_in : InP 207 := ⟨Tryz.f207,by kernel_rfl,by kernel_rfl,by kernel_rfl⟩
def f209 (a : Int×Int) : Option (Int×Int×Bool) :=
 bif (decide (a.1 < (0:Int))) then
 bindF (f212 (a.1,a.2)) fun q4_7 =>
 some ((u64.wrap q4_7.1),q4_7.2,true)
 else
 some ((u64.wrap a.1),a.2,false)
def C209 : Con where
 X := Int×Int
 Y := Int×Int×Bool
 e := 0
 args x := [.dat T11 x]
 hin x := []
 F x := f209 x
 ret y := [.dat T10 y.1,.dat T10 y.2.1,.dat .bool y.2.2]
 hout y := []
 nout := 0
theorem C209_vc (a : Int×Int) (y : Int×Int×Bool) (hF : f209 a = some y) : VC Tryz.f209 C209 a y := by
 unfold f209 at hF
 refine OL (OL (OL (condI hF (fun hF=>?_) (fun hF=>?_))))
 ·refine OL ?_
  obtain ⟨q4_7,hq4_7,hF⟩ := bindE hF
  refine OL (AI f212_in (callV0 (callI C212 (a.1,a.2) q4_7 [] false C212_holds hq4_7 rfl rfl (R2 (AI (fun h=>nomatch h) (R2 (AI TV (AI TV (OL (OL (EI (.take 0 (.take 1 (.take 2 (.take 3 (.take 4 (.take 5 (.take 6 (.take 7 .done)))))))) (EI [] (EI [] (AI rfl ?_))))))))))))))
  have hy := someE hF
  subst hy
  refine AI rfl (E4 [] (R4 (AI TV TV)))
 refine OL (EI (.take 0 (.take 1 (.take 2 (.take 3 (.take 4 (.take 5 (.take 6 (.take 7 .done)))))))) (EI [] (EI [] (AI rfl ?_))))
 have hy := someE hF
 subst hy
 refine AI rfl (E4 [] (R4 (AI TV TV)))
theorem C209_holds : C209.Holds Tryz.prog 209 := holds_of_vc tab_ok mixed (fn := Tryz.f209) (by kernel_rfl) rfl C209 (fun x y hF=>C209_vc x y hF)
theorem f209_in : InP 209 := ⟨Tryz.f209,by kernel_rfl,by kernel_rfl,by kernel_rfl⟩
def f184_j3 (r4:Int) (q6_7 : Int×Int) : Option Bool :=
 bif (decide (q6_7.2 > (u64.wrap (r4 - q6_7.2)))) then
 some true
 else
 bif (q6_7.2 == (u64.wrap (r4 - q6_7.2))) then
 some ((bitsOf IntKind.u64 (fun p q=>p &&& q) q6_7.1 (1:Int)) == (1:Int))
 else
 some false
def f184_j2 (r3 : Int×Int×Bool) (r4:Int) (q6_7 : Int×Int) : Option (Int×Int) :=
 bindF (f184_j3 r4 q6_7) fun z8 =>
 bif z8 then
 bindF (add64 q6_7.1 (1:Int) (0:Int)) fun r9 =>
 some ((u64.wrap ((u64.wrap (Int.tdiv r3.1 r4)) + r9.2)),r9.1)
 else
 some ((u64.wrap (Int.tdiv r3.1 r4)),q6_7.1)
def f184 (a : Int×Int) (n:Int) : Option Int :=
 bif (n == (0:Int)) then
 bindF (f208 (a.1,a.2) ((0:Int),(0:Int))) fun r1 =>
 bindF (f207 r1 (0:Int)) fun r2 =>
 some r2
 else
 bindF (f209 (a.1,a.2)) fun r3 =>
 bindF (f210 n) fun r4 =>
 guardF (r4 ≠ 0) <|
 guardF (r4 ≠ 0) <|
 bindF (f211 (Int.tmod r3.1 r4) r3.2.1 r4) fun q6_7 =>
 bindF (f184_j2 r3 r4 q6_7) fun z7 =>
 bif (!(r3.2.2 == (decide (n < (0:Int))))) then
 bindF (f212 ((i64.wrap (if (9223372036854775807:Int) < z7.1 then (9223372036854775807:Int) else z7.1)),z7.2)) fun r10 =>
 bindF (f182 (r10.1,r10.2)) fun r11 =>
 some r11
 else
 bindF (f182 ((i64.wrap (if (9223372036854775807:Int) < z7.1 then (9223372036854775807:Int) else z7.1)),z7.2)) fun r12 =>
 some r12
def C184 : Con where
 X := (Int×Int)×Int
 Y := Int
 e := 0
 args x := [.dat T11 x.1,.dat T1 x.2]
 hin x := []
 F x := f184 x.1 x.2
 ret y := [.dat T1 y]
 hout y := []
 nout := 0
theorem C184_vc (a : Int×Int) (n:Int) (y:Int) (hF : f184 a n = some y) : VC Tryz.f184 C184 (a,n) y := by
 unfold f184 at hF
 refine OL (OL (OL (condI hF (fun hF=>?_) (fun hF=>?_))))
 ·refine OL ?_
  obtain ⟨r1,hr1,hF⟩ := bindE hF
  refine OL (AI f208_in (callV0 (callI C208 ((a.1,a.2),((0:Int),(0:Int))) r1 [] false C208_holds hr1 rfl rfl (R4 (AI (fun h=>nomatch h) (R2 (AI TV (AI TV ?_))))))))
  obtain ⟨r2,hr2,hF⟩ := bindE hF
  refine OL (AI f207_in (callV0 (callI C207 (r1,(0:Int)) r2 [] false C207_holds hr2 rfl rfl (R2 (AI (fun h=>nomatch h) (R2 (AI TV (AI TV ?_))))))))
  have hy := someE hF
  subst hy
  refine AI rfl (E4 [] (R2 (AI TV TV)))
 refine OL ?_
 obtain ⟨r3,hr3,hF⟩ := bindE hF
 refine OL (AI f209_in (callV0 (callI C209 (a.1,a.2) r3 [] false C209_holds hr3 rfl rfl (R2 (AI (fun h=>nomatch h) (R2 (AI TV (AI TV (OL ?_)))))))))
 obtain ⟨r4,hr4,hF⟩ := bindE hF
 refine OL (AI f210_in (callV0 (callI C210 n r4 [] false C210_holds hr4 rfl rfl (AI rfl (AI (fun h=>nomatch h) (R2 (AI TV (AI TV (OL (OL (EI (.take 0 (.take 1 (.take 2 (.take 3 (.take 4 (.take 5 (.take 6 (.take 7 .done)))))))) (EI [] (EI [] (AI rfl (guardI hF (fun hF=>?_))))))))))))))))
 refine guardI hF (fun hF=>?_)
 refine OL ?_
 obtain ⟨q6_7,hq6_7,hF⟩ := bindE hF
 refine OL (AI f211_in (callV0 (callI C211 ((Int.tmod r3.1 r4),r3.2.1,r4) q6_7 [] false C211_holds hq6_7 rfl rfl (R3 (AI (fun h=>nomatch h) (R2 (AI TV (AI TV ?_))))))))
 obtain ⟨z7,hz7,hF⟩ := bindE hF
 refine OQ ⟨[(0,⟨[(7,.dat .bool (!(r3.2.2 == (decide (n < (0:Int)))))),(9,.dat T10 z7.1),(11,.dat T10 z7.2)],[],0⟩)],?_,?_⟩
 ·have hF := hz7
  clear hz7
  unfold f184_j2 at hF
  obtain ⟨z8,hz8,hF⟩ := bindE hF
  refine OQ ⟨[(0,⟨[(7,.dat .bool (!(r3.2.2 == (decide (n < (0:Int)))))),(9,.dat T10 (u64.wrap (Int.tdiv r3.1 r4))),(11,.dat T10 q6_7.1),(61,.dat .bool z8)],[],0⟩)],?_,?_⟩
  ·have hF := hz8
   clear hz8
   unfold f184_j3 at hF
   refine condN hF (fun hF=>?_) (fun hF=>?_)
   ·refine gdYF (gdYF (gdYF (gdYF (gdYF (condI hF (fun hF=>?_) (fun hF=>?_))))))
    ·refine gdYT (gdYT (gdYF (condT (condF ?_))))
     have hz := someE hF
     subst hz
     refine E4 [] (R5 (AI TV TV))
    refine gdNT (gdNT (gdYF (condF (condF ?_))))
    have hz := someE hF
    subst hz
    refine E4 [] (R5 (AI TV TV))
   refine gdNF (gdNF (gdNF (gdNF (gdNF (gdNF (condT ?_))))))
   have hz := someE hF
   subst hz
   refine E4 [] (R5 (AI TV TV))
  refine AI (condI hF (fun hF=>?_) (fun hF=>?_)) TV
  ·refine OL (OL ?_)
   obtain ⟨r9,hr9,hF⟩ := bindE hF
   refine OQ ⟨ext3 add64,[r9.1,r9.2],add64_ok,AI (ext3I hr9) ?_⟩
   have hz := someE hF
   subst hz
   refine E4 [] (R4 (AI TV TV))
  have hz := someE hF
  subst hz
  refine E4 [] (R4 (AI TV TV))
 refine AI (OL (OL (OL (OL (condI hF (fun hF=>?_) (fun hF=>?_)))))) TV
 ·refine OL ?_
  obtain ⟨r10,hr10,hF⟩ := bindE hF
  refine OL (AI f212_in (callV0 (callI C212 ((i64.wrap (if (9223372036854775807:Int) < z7.1 then (9223372036854775807:Int) else z7.1)),z7.2) r10 [] false C212_holds hr10 rfl rfl (R2 (AI (fun h=>nomatch h) (R2 (AI TV (AI TV ?_))))))))
  obtain ⟨r11,hr11,hF⟩ := bindE hF
  refine OL (AI f182_in (callV0 (callI C182 (r10.1,r10.2) r11 [] false C182_holds hr11 rfl rfl (R2 (AI (fun h=>nomatch h) (R2 (AI TV (AI TV ?_))))))))
  have hy := someE hF
  subst hy
  refine AI rfl (E4 [] (R2 (AI TV TV)))
 refine OL ?_
 obtain ⟨r12,hr12,hF⟩ := bindE hF
 refine OL (AI f182_in (callV0 (callI C182 ((i64.wrap (if (9223372036854775807:Int) < z7.1 then (9223372036854775807:Int) else z7.1)),z7.2) r12 [] false C182_holds hr12 rfl rfl (R2 (AI (fun h=>nomatch h) (R2 (AI TV (AI TV ?_))))))))
 have hy := someE hF
 subst hy
 refine AI rfl (E4 [] (R2 (AI TV TV)))
theorem C184_holds : C184.Holds Tryz.prog 184 := holds_of_vc tab_ok mixed (fn := Tryz.f184) (by kernel_rfl) rfl C184 (fun x y hF=>C184_vc x.1 x.2 y hF)
theorem f184_in : InP 184 := ⟨Tryz.f184,by kernel_rfl,by kernel_rfl,by kernel_rfl⟩
def f148 (a : (List Int)×(List Int)) : Option (Int×Int) :=
 bindF (f91 (a.1,a.2)) fun q3_8 =>
 bif (!q3_8) then
 some ((0:Int),(1:Int))
 else
 bindF (f183 a.2) fun q3_2 =>
 bindF (f184 (q3_2.1,q3_2.2) (List.length a.2:Int)) fun q3_6 =>
 some (q3_6,(0:Int))
def C148 : Con where
 X := (List Int)×(List Int)
 Y := Int×Int
 e := 0
 args x := [.dat T9 x]
 hin x := []
 F x := f148 x
 ret y := [.dat T1 y.1,.dat T1 y.2]
 hout y := []
 nout := 0
theorem C148_vc (a : (List Int)×(List Int)) (y : Int×Int) (hF : f148 a = some y) : VC Tryz.f148 C148 a y := by
 unfold f148 at hF
 refine OL (OL (OL ?_))
 obtain ⟨q3_8,hq3_8,hF⟩ := bindE hF
 refine OL (AI f91_in (callV0 (callI C91 (a.1,a.2) q3_8 [] false C91_holds hq3_8 rfl rfl (R2 (AI (fun h=>nomatch h) (R2 (AI TV (AI TV (condI hF (fun hF=>?_) (fun hF=>?_))))))))))
 ·refine OL ?_
  have hy := someE hF
  subst hy
  refine AI rfl (E4 [] (R3 (AI TV TV)))
 refine OL (EI (.take 0 (.take 1 (.take 3 (.take 4 (.take 5 (.alt 2 (.alt 6 (.take 7 (.take 8 .done)) .done) .done)))))) (EI [] (EI [] (AI rfl (AI TV ?_)))))
 obtain ⟨q3_2,hq3_2,hF⟩ := bindE hF
 refine OL (AI f183_in (callV0 (callI C183 a.2 q3_2 [] false C183_holds hq3_2 rfl rfl (AI rfl (AI (fun h=>nomatch h) (R2 (AI TV (AI TV (AI TV ?_)))))))))
 obtain ⟨q3_6,hq3_6,hF⟩ := bindE hF
 refine OL (AI f184_in (callV0 (callI C184 ((q3_2.1,q3_2.2),(List.length a.2:Int)) q3_6 [] false C184_holds hq3_6 rfl rfl (R3 (AI (fun h=>nomatch h) (R2 (AI TV (AI TV ?_))))))))
 have hy := someE hF
 subst hy
 refine AI rfl (E4 [] (R3 (AI TV TV)))
theorem C148_holds : C148.Holds Tryz.prog 148 := holds_of_vc tab_ok mixed (fn := Tryz.f148) (by kernel_rfl) rfl C148 (fun x y hF=>C148_vc x y hF)
theorem f148_in : InP 148 := ⟨Tryz.f148,by kernel_rfl,by kernel_rfl,by kernel_rfl⟩
def f185 (kind:Int) : Option Bool :=
 bif (decide (kind ≥ (1:Int))) then
 some (decide (kind ≤ (5:Int)))
 else
 some false
def C185 : Con where
 X := Int
 Y := Bool
 e := 0
 args x := [.dat T1 x]
 hin x := []
 F x := f185 x
 ret y := [.dat .bool y]
 hout y := []
 nout := 0
theorem C185_vc (kind:Int) (y : Bool) (hF : f185 kind = some y) : VC Tryz.f185 C185 kind y := by
 unfold f185 at hF
 refine OL (OL (condI hF (fun hF=>?_) (fun hF=>?_)))
 ·refine gdYT (condT ?_)
  have hy := someE hF
  subst hy
  refine AI rfl (E4 [] (R2 (AI TV TV)))
 refine gdNT (condF ?_)
 have hy := someE hF
 subst hy
 refine AI rfl (E4 [] (R2 (AI TV TV)))
theorem C185_holds : C185.Holds Tryz.prog 185 := holds_of_vc tab_ok mixed (fn := Tryz.f185) (by kernel_rfl) rfl C185 (fun x y hF=>C185_vc x y hF)
theorem f185_in : InP 185 := ⟨Tryz.f185,by kernel_rfl,by kernel_rfl,by kernel_rfl⟩
def f213 (n:Int) : Option Int :=
 bif (decide (n ≥ (2147483648:Int))) then
 some (9223372036854775807:Int)
 else
 bif (decide (n < (-2147483648:Int))) then
 some (-9223372036854775808:Int)
 else
 some (i64.wrap (n * 2 ^ min (Int.toNat (32:Int)) (IntKind.bits IntKind.i64)))
def C213 : Con where
 X := Int
 Y := Int
 e := 0
 args x := [.dat T1 x]
 hin x := []
 F x := f213 x
 ret y := [.dat T1 y]
 hout y := []
 nout := 0
theorem C213_vc (n:Int) (y:Int) (hF : f213 n = some y) : VC Tryz.f213 C213 n y := by
 unfold f213 at hF
 refine OL (OL (OL (condI hF (fun hF=>?_) (fun hF=>?_))))
 ·refine OL ?_
  have hy := someE hF
  subst hy
  refine AI rfl (E4 [] (R2 (AI TV TV)))
 refine OL (condI hF (fun hF=>?_) (fun hF=>?_))
 ·refine OL ?_
  have hy := someE hF
  subst hy
  refine AI rfl (E4 [] (R2 (AI TV TV)))
 refine OL (AI (by decide) ?_)
 have hy := someE hF
 subst hy
 refine AI rfl (E4 [] (R2 (AI TV TV)))
theorem C213_holds : C213.Holds Tryz.prog 213 := holds_of_vc tab_ok mixed (fn := Tryz.f213) (by kernel_rfl) rfl C213 (fun x y hF=>C213_vc x y hF)
theorem f213_in : InP 213 := ⟨Tryz.f213,by kernel_rfl,by kernel_rfl,by kernel_rfl⟩
def f214 (x_:Int) (lo:Int) (hi:Int) : Option Int :=
 some (if hi < (if lo > x_ then lo else x_) then hi else (if lo > x_ then lo else x_))
def C214 : Con where
 X := Int×Int×Int
 Y := Int
 e := 0
 args x := [.dat T1 x.1,.dat T1 x.2.1,.dat T1 x.2.2]
 hin x := []
 F x := f214 x.1 x.2.1 x.2.2
 ret y := [.dat T1 y]
 hout y := []
 nout := 0
theorem C214_vc (x_:Int) (lo:Int) (hi:Int) (y:Int) (hF : f214 x_ lo hi = some y) : VC Tryz.f214 C214 (x_,lo,hi) y := by
 unfold f214 at hF
 refine OL (OL ?_)
 have hy := someE hF
 subst hy
 refine AI rfl (E4 [] (R2 (AI TV TV)))
theorem C214_holds : C214.Holds Tryz.prog 214 := holds_of_vc tab_ok mixed (fn := Tryz.f214) (by kernel_rfl) rfl C214 (fun x y hF=>C214_vc x.1 x.2.1 x.2.2 y hF)
theorem f214_in : InP 214 := ⟨Tryz.f214,by kernel_rfl,by kernel_rfl,by kernel_rfl⟩
def f215 (a:Int) : Option Int :=
 bif (a == (-9223372036854775808:Int)) then
 some (9223372036854775807:Int)
 else
 some (i64.wrap (0 - a))
def C215 : Con where
 X := Int
 Y := Int
 e := 0
 args x := [.dat T1 x]
 hin x := []
 F x := f215 x
 ret y := [.dat T1 y]
 hout y := []
 nout := 0
theorem C215_vc (a:Int) (y:Int) (hF : f215 a = some y) : VC Tryz.f215 C215 a y := by
 unfold f215 at hF
 refine OL (OL (OL (condI hF (fun hF=>?_) (fun hF=>?_))))
 ·refine OL ?_
  have hy := someE hF
  subst hy
  refine AI rfl (E4 [] (R2 (AI TV TV)))
 refine OL ?_
 have hy := someE hF
 subst hy
 refine AI rfl (E4 [] (R2 (AI TV TV)))
theorem C215_holds : C215.Holds Tryz.prog 215 := holds_of_vc tab_ok mixed (fn := Tryz.f215) (by kernel_rfl) rfl C215 (fun x y hF=>C215_vc x y hF)
theorem f215_in : InP 215 := ⟨Tryz.f215,by kernel_rfl,by kernel_rfl,by kernel_rfl⟩
end Go.Proofs
