import Derived.Test.YtgkmdgdkmgkelaaGreatGradJoinsS0
set_option linter.unusedVariables false
set_option maxRecDepth 100000
set_option maxHeartbeats 8000000
namespace Go.Proofs
open Go.AM
open IntKind (i64 u64 i32 u32 i16 u16 i8 u8)
def f65_j1 (a:Int) (b:Int) : Option (Sum Unit Unit) :=
 bif (!((decide (a < (0:Int))) == (decide (b < (0:Int))))) then
 some (Sum.inr ())
 else
 bif ((decide ((i64.wrap (a + b)) < (0:Int))) == (decide (a < (0:Int)))) then
 some (Sum.inr ())
 else
 some (Sum.inl ())
def f65 (a:Int) (b:Int) : Option Int :=
 bindF (f65_j1 a b) fun z1 =>
 sumF z1 (fun z1a =>
 bif (decide (a < (0:Int))) then
 some (-9223372036854775808:Int)
 else
 some (9223372036854775807:Int)) (fun z1b =>
 some (i64.wrap (a + b)))
def C65 : Con where
 X := Int×Int
 Y := Int
 e := 0
 args x := [.dat T0 x.1,.dat T0 x.2]
 hin x := []
 F x := f65 x.1 x.2
 ret y := [.dat T0 y]
 hout y := []
 nout := 0
theorem C65_vc (a:Int) (b:Int) (y:Int) (hF : f65 a b = some y) : VC Tryz.f65 C65 (a,b) y := by
 unfold f65 at hF
 refine OL (OL ?_)
 obtain ⟨z1,hz1,hF⟩ := bindE hF
 refine OQ ⟨Sum.elim (fun z1a=>[(0,⟨[(0,.dat T0 a)],[],0⟩)]) (fun z1b=>[(1,⟨[(4,.dat T0 (i64.wrap (a + b)))],[],0⟩)]) z1,?_,?_⟩
 ·have hF := hz1
  clear hz1
  unfold f65_j1 at hF
  refine OL (condN hF (fun hF=>?_) (fun hF=>?_))
  ·refine gdYF (gdYF (gdYF (gdYF (condF (condI hF (fun hF=>?_) (fun hF=>?_))))))
   ·refine OL ?_
    have hz := someE hF
    subst hz
    refine E4 [] (R2 (AI TV TV))
   have hz := someE hF
   subst hz
   refine E4 [] (R2 (AI TV TV))
  refine gdNF (gdNF (gdNF (gdNF (condT (condT (OL ?_))))))
  have hz := someE hF
  subst hz
  refine E4 [] (R2 (AI TV TV))
 rcases z1 with z1a | z1b
 ·dsimp only [sumF] at hF
  refine AI (OL (OL (condI hF (fun hF=>?_) (fun hF=>?_)))) TV
  ·refine OL ?_
   have hy := someE hF
   subst hy
   refine AI rfl (E4 [] (R2 (AI TV TV)))
  refine OL ?_
  have hy := someE hF
  subst hy
  refine AI rfl (E4 [] (R2 (AI TV TV)))
 dsimp only [sumF] at hF
 refine AI ?_ TV
 have hy := someE hF
 subst hy
 refine AI rfl (E4 [] (R2 (AI TV TV)))
theorem C65_holds : C65.Holds Tryz.prog 65 := holds_of_vc tab_ok mixed (fn := Tryz.f65) (by kernel_rfl) rfl C65 (fun x y hF=>C65_vc x.1 x.2 y hF)
theorem f65_in : InP 65 := ⟨Tryz.f65,by kernel_rfl,by kernel_rfl,by kernel_rfl⟩
def f120_65_j3 (a : (List Int)×(List Int)) (b : (List Int)×(List Int)) : Option Bool :=
 bindF (f86 (a.1,a.2)) fun r9 =>
 bif (!r9) then
 some true
 else
 bindF (f86 (b.1,b.2)) fun r10 =>
 some (!r10)
def f120_65_j2 (a : (List Int)×(List Int)) (b : (List Int)×(List Int)) : Option (Sum Unit Unit) :=
 bindF (f120_65_j3 a b) fun z8 =>
 bif z8 then
 some (Sum.inr ())
 else
 some (Sum.inl ())
def f120_65_l4 (a : (List Int)×(List Int)) (b : (List Int)×(List Int)) (r12 : Int×(List Int)×(List Int)) (q7_3 : List Int) (q7_7 : List Int) (go : (Int×(List Int)) → Option (List Int)) (v52:Int) (l7 : List Int) : Option (List Int) :=
 bif (decide (v52 < (List.length r12.2.2:Int))) then
 guardF (0 ≤ v52 ∧ v52 < (List.length q7_3:Int)) <|
 guardF (0 ≤ (rd (0:Int) q7_3 v52) ∧ (rd (0:Int) q7_3 v52) < (List.length a.2:Int)) <|
 guardF (0 ≤ v52 ∧ v52 < (List.length q7_7:Int)) <|
 guardF (0 ≤ (rd (0:Int) q7_7 v52) ∧ (rd (0:Int) q7_7 v52) < (List.length b.2:Int)) <|
 bindF (f65 (rd (0:Int) a.2 (rd (0:Int) q7_3 v52)) (rd (0:Int) b.2 (rd (0:Int) q7_7 v52))) fun q11_20 =>
 guardF (0 ≤ v52 ∧ v52 < (List.length l7:Int)) <|
 go ((i64.wrap (v52 + (1:Int))),(List.set l7 (Int.toNat v52) q11_20))
 else
 some l7
def f120_65 (a : (List Int)×(List Int)) (b : (List Int)×(List Int)) : Option (Int×(List Int)×(List Int)) :=
 bindF (f120_65_j2 a b) fun z5 =>
 sumF z5 (fun z5a =>
 bindF (f141 a.1 b.1) fun r11 =>
 bif (r11.1 != (0:Int)) then
 some (r11.1,[],[])
 else
 bindF (f52 r11.2 (0:Int)) fun r12 =>
 bindF (f142 a.1 r11.2) fun q7_3 =>
 bindF (f142 b.1 r11.2) fun q7_7 =>
 bindF (loopF (fun go x=>f120_65_l4 a b r12 q7_3 q7_7 go x.1 x.2) fuelN ((0:Int),r12.2.2)) fun z13 =>
 some ((0:Int),r12.2.1,z13)) (fun z5b =>
 some ((1:Int),[],[]))
def C120_65 : Con where
 X := ((List Int)×(List Int))×((List Int)×(List Int))
 Y := Int×(List Int)×(List Int)
 e := 0
 args x := [.dat T7 x.1,.dat T7 x.2,.raw false [(.c (.func (.func 65) #[] #[]))]]
 hin x := []
 F x := f120_65 x.1 x.2
 ret y := [.raw true [(.osl 0),(.osl 1)],.dat T0 y.1]
 hout y := [(0,.arr 3 T0 y.2.1),(1,.arr 23 T0 y.2.2)]
 nout := 2
theorem C120_65_vc (a : (List Int)×(List Int)) (b : (List Int)×(List Int)) (y : Int×(List Int)×(List Int)) (hF : f120_65 a b = some y) : VC Tryz.f120 C120_65 (a,b) y := by
 unfold f120_65 at hF
 refine OL ?_
 obtain ⟨z5,hz5,hF⟩ := bindE hF
 refine OQ ⟨Sum.elim (fun z5a=>[(0,⟨[(2,.raw false [(.c (.func (.func 65) #[] #[]))]),(3,P0 0 0),(4,P0 1 0),(6,P0 2 0)],[(0,.cells [(.d T4 a.1),(.d T4 a.2)]),(1,.cells [(.d T4 b.1),(.d T4 b.2)]),(2,.cells [N0,N0])],3⟩)]) (fun z5b=>[(1,⟨[(6,P0 0 0),(7,D0 1)],[(0,.cells [N0,N0])],1⟩)]) z5,?_,?_⟩
 ·have hF := hz5
  clear hz5
  unfold f120_65_j2 at hF
  obtain ⟨z8,hz8,hF⟩ := bindE hF
  refine OQ ⟨[(0,⟨[(2,.raw false [(.c (.func (.func 65) #[] #[]))]),(3,P0 0 0),(4,P0 1 0),(6,P0 2 0),(22,.dat .bool z8)],[(0,.cells [(.d T4 a.1),(.d T4 a.2)]),(1,.cells [(.d T4 b.1),(.d T4 b.2)]),(2,.cells [N0,N0])],3⟩)],?_,?_⟩
  ·have hF := hz8
   clear hz8
   unfold f120_65_j3 at hF
   obtain ⟨r9,hr9,hF⟩ := bindE hF
   refine OL (AI f86_in (callV0 (callI C86 (a.1,a.2) r9 [] false C86_holds hr9 rfl rfl (R2 (AI (fun h=>nomatch h) (R2 (AI TV (AI TV (condN hF (fun hF=>?_) (fun hF=>?_))))))))))
   ·refine gdYF ?_
    obtain ⟨r10,hr10,hF⟩ := bindE hF
    refine OL (AI f86_in (callV0 (callI C86 (b.1,b.2) r10 [] false C86_holds hr10 rfl rfl (R2 (AI (fun h=>nomatch h) (R2 (AI TV (AI TV (gdYF (condF ?_))))))))))
    have hz := someE hF
    subst hz
    refine E4 [(0,some 0),(1,some 1),(2,some 2)] (R2 (AI (R4 TV) (R3 TV)))
   refine gdNF (gdNF (condT ?_))
   have hz := someE hF
   subst hz
   refine E4 [(0,some 0),(1,some 1),(2,some 2)] (R2 (AI (R4 TV) (R3 TV)))
  refine AI (condI hF (fun hF=>?_) (fun hF=>?_)) TV
  ·refine OL (OL ?_)
   have hz := someE hF
   subst hz
   refine E4 [(0,some 2)] (R2 (AI (AI rfl TV) (AI rfl TV)))
  have hz := someE hF
  subst hz
  refine E4 [(0,some 0),(1,some 1),(2,some 2)] (AI rfl (AI (R4 TV) (R3 TV)))
 rcases z5 with z5a | z5b
 ·dsimp only [sumF] at hF
  refine AI (OL ?_) TV
  obtain ⟨r11,hr11,hF⟩ := bindE hF
  refine OL (AI f141_in (callV0 (callI C141 (a.1,b.1) r11 [] false C141_holds hr11 rfl rfl (R2 (AI (fun h=>nomatch h) (R2 (AI TV (AI TV (OL (OL (condI hF (fun hF=>?_) (fun hF=>?_))))))))))))
  ·refine OL (OL ?_)
   have hy := someE hF
   subst hy
   refine AI rfl (E4 [(0,none),(1,none)] (R2 (AI (AI rfl TV) (R2 TV))))
  refine OL ?_
  obtain ⟨r12,hr12,hF⟩ := bindE hF
  refine OL (AI f52_in (callV0 (callI C52 (r11.2,(0:Int)) r12 [] true C52_holds hr12 rfl rfl (R2 (AI (fun _=>rfl) (R2 (AI TV (AI TV (OL (OL (EI (.take 0 (.take 1 (.take 2 (.take 4 (.take 5 (.take 6 (.alt 3 (.alt 7 (.take 8 (.take 9 .done)) .done) .done))))))) (EI [] (EI [] (AI rfl (AI TV ?_)))))))))))))))
  obtain ⟨q7_3,hq7_3,hF⟩ := bindE hF
  refine OL (AI f142_in (callV0 (callI C142 (a.1,r11.2) q7_3 [] true C142_holds hq7_3 rfl rfl (R2 (AI (fun _=>rfl) (R2 (AI TV (AI TV (AI TV ?_)))))))))
  obtain ⟨q7_7,hq7_7,hF⟩ := bindE hF
  refine OL (AI f142_in (callV0 (callI C142 (b.1,r11.2) q7_7 [] true C142_holds hq7_7 rfl rfl (R2 (AI (fun _=>rfl) (R2 (AI TV (AI TV (OL (OL ?_))))))))))
  obtain ⟨z13,hz13,hF⟩ := bindE hF
  refine loopI (Int×(List Int)) (List Int) (fun x=>⟨[(2,.raw false [(.c (.func (.func 65) #[] #[]))]),(3,P0 0 0),(4,P0 1 0),(6,P0 2 0),(10,P0 3 0),(12,O0 4),(13,O0 5),(51,.dat T0 (List.length r12.2.2:Int)),(52,.dat T0 x.1)],[(0,.cells [(.d T4 a.1),(.d T4 a.2)]),(1,.cells [(.d T4 b.1),(.d T4 b.2)]),(2,.cells [N0,N0]),(3,.cells [(.osl 6),(.osl 7)]),(4,.arr 3 T0 q7_3),(5,.arr 3 T0 q7_7),(6,.arr 3 T0 r12.2.1),(7,.arr 23 T0 x.2)],8⟩) (fun z=>[(2,⟨[(6,P0 0 0),(10,P0 1 0)],[(0,.cells [N0,N0]),(1,.cells [(.osl 2),(.osl 3)]),(2,.arr 3 T0 r12.2.1),(3,.arr 23 T0 z)],4⟩)]) (loopF (fun go x=>f120_65_l4 a b r12 q7_3 q7_7 go x.1 x.2)) fuelN ((0:Int),r12.2.2) z13 (AI hz13 (AI (E4 [(0,some 0),(1,some 1),(2,some 2),(3,some 6),(4,some 7),(5,some 8),(6,some 4),(7,some 5)] (R3 (AI (R7 TV) (R8 TV)))) (AI (fun _ _ h=>loopZ h) (AI (fun m=>curI (fun v52=>fun l7 z hF=>?_)) ?_))))
  ·have hF : f120_65_l4 a b r12 q7_3 q7_7 (loopF (fun go x=>f120_65_l4 a b r12 q7_3 q7_7 go x.1 x.2) m) v52 l7 = some z := hF
   unfold f120_65_l4 at hF
   refine OL (OL (condI hF (fun hF=>?_) (fun hF=>?_)))
   ·refine OL (OL (EI (.take 0 (.take 1 (.take 2 (.take 3 (.take 4 (.take 5 (.take 6 (.take 7 (.take 8 (.take 9 (.take 10 (.take 11 (.take 12 (.take 13 (.take 14 (.take 15 (.take 16 (.take 17 (.take 18 (.take 19 (.alt 20 (.take 21 (.alt 22 .done .done)) .done))))))))))))))))))))) (EI [] (EI [] (AI rfl (guardI hF (fun hF=>?_)))))))
    refine guardI hF (fun hF=>?_)
    refine guardI hF (fun hF=>?_)
    refine guardI hF (fun hF=>?_)
    refine AI TV ?_
    obtain ⟨q11_20,hq11_20,hF⟩ := bindE hF
    refine OL (AI f65_in (callV0 (callI C65 ((rd (0:Int) a.2 (rd (0:Int) q7_3 v52)),(rd (0:Int) b.2 (rd (0:Int) q7_7 v52))) q11_20 [] false C65_holds hq11_20 rfl rfl (R2 (AI (fun h=>nomatch h) (R2 (AI TV (AI TV (guardI hF (fun hF=>?_))))))))))
    refine AI TV (OL (EI ((i64.wrap (v52 + (1:Int))),(List.set l7 (Int.toNat v52) q11_20)) (AI hF (E4 [(0,some 0),(1,some 1),(2,some 2),(3,some 3),(4,some 4),(5,some 5),(6,some 6),(7,some 7)] (R3 (AI (R7 TV) (R8 TV)))))))
   have hz := someE hF
   subst hz
   refine E4 [(0,some 2),(1,some 3),(2,some 6),(3,some 7)] (AI rfl (AI (R2 TV) (R4 TV)))
  refine AI (OL (OL ?_)) TV
  have hy := someE hF
  subst hy
  refine AI rfl (E4 [(0,some 2),(1,some 3)] (R2 (AI (AI rfl TV) (R2 TV))))
 dsimp only [sumF] at hF
 refine AI ?_ TV
 have hy := someE hF
 subst hy
 refine AI rfl (E4 [(0,none),(1,none)] (R2 (AI (AI rfl TV) (R2 TV))))
theorem C120_65_holds : C120_65.Holds Tryz.prog 120 := holds_of_vc tab_ok mixed (fn := Tryz.f120) (by kernel_rfl) rfl C120_65 (fun x y hF=>C120_65_vc x.1 x.2 y hF)
theorem f120_65_in : ∃ fn,Tryz.prog.funcs[120]? = some fn ∧ fn.body.isSome = true ∧ (fn.name == "runtime.NumGoroutine") = false := ⟨Tryz.f120,by kernel_rfl,by kernel_rfl,by kernel_rfl⟩
def f90 (a : (List Int)×(List Int)) (b : (List Int)×(List Int)) : Option (Int×(List Int)×(List Int)) :=
 bindF (f120_65 (a.1,a.2) (b.1,b.2)) fun r1 =>
 some (r1.1,r1.2.1,r1.2.2)
def C90 : Con where
 X := ((List Int)×(List Int))×((List Int)×(List Int))
 Y := Int×(List Int)×(List Int)
 e := 0
 args x := [.dat T7 x.1,.dat T7 x.2]
 hin x := []
 F x := f90 x.1 x.2
 ret y := [.raw true [(.osl 0),(.osl 1)],.dat T0 y.1]
 hout y := [(0,.arr 3 T0 y.2.1),(1,.arr 23 T0 y.2.2)]
 nout := 2
theorem C90_vc (a : (List Int)×(List Int)) (b : (List Int)×(List Int)) (y : Int×(List Int)×(List Int)) (hF : f90 a b = some y) : VC Tryz.f90 C90 (a,b) y := by
 unfold f90 at hF
 refine OL (OL ?_)
 obtain ⟨r1,hr1,hF⟩ := bindE hF
 refine OL (AI f120_65_in (callV0 (callI C120_65 ((a.1,a.2),(b.1,b.2)) r1 [] false C120_65_holds hr1 rfl rfl (R4 (AI (fun h=>nomatch h) (R2 (AI (AI rfl TV) (AI TV (OL ?_)))))))))
 have hy := someE hF
 subst hy
 refine AI rfl (E4 [(0,some 3),(1,some 4)] (R2 (AI (AI rfl TV) (R2 TV))))
theorem C90_holds : C90.Holds Tryz.prog 90 := holds_of_vc tab_ok mixed (fn := Tryz.f90) (by kernel_rfl) rfl C90 (fun x y hF=>C90_vc x.1 x.2 y hF)
theorem f90_in : InP 90 := ⟨Tryz.f90,by kernel_rfl,by kernel_rfl,by kernel_rfl⟩
def f68_j1 (a:Int) (b:Int) : Option (Sum Unit Unit) :=
 bif ((decide (a < (0:Int))) == (decide (b < (0:Int)))) then
 some (Sum.inr ())
 else
 bif ((decide ((i64.wrap (a - b)) < (0:Int))) == (decide (a < (0:Int)))) then
 some (Sum.inr ())
 else
 some (Sum.inl ())
def f68 (a:Int) (b:Int) : Option Int :=
 bindF (f68_j1 a b) fun z1 =>
 sumF z1 (fun z1a =>
 bif (decide (a < (0:Int))) then
 some (-9223372036854775808:Int)
 else
 some (9223372036854775807:Int)) (fun z1b =>
 some (i64.wrap (a - b)))
def C68 : Con where
 X := Int×Int
 Y := Int
 e := 0
 args x := [.dat T0 x.1,.dat T0 x.2]
 hin x := []
 F x := f68 x.1 x.2
 ret y := [.dat T0 y]
 hout y := []
 nout := 0
theorem C68_vc (a:Int) (b:Int) (y:Int) (hF : f68 a b = some y) : VC Tryz.f68 C68 (a,b) y := by
 unfold f68 at hF
 refine OL (OL ?_)
 obtain ⟨z1,hz1,hF⟩ := bindE hF
 refine OQ ⟨Sum.elim (fun z1a=>[(0,⟨[(0,.dat T0 a)],[],0⟩)]) (fun z1b=>[(1,⟨[(4,.dat T0 (i64.wrap (a - b)))],[],0⟩)]) z1,?_,?_⟩
 ·have hF := hz1
  clear hz1
  unfold f68_j1 at hF
  refine OL (condN hF (fun hF=>?_) (fun hF=>?_))
  ·refine gdYF (gdYF (gdYF (gdYF (condF (condI hF (fun hF=>?_) (fun hF=>?_))))))
   ·refine OL ?_
    have hz := someE hF
    subst hz
    refine E4 [] (R2 (AI TV TV))
   have hz := someE hF
   subst hz
   refine E4 [] (R2 (AI TV TV))
  refine gdNF (gdNF (gdNF (gdNF (condT (condT (OL ?_))))))
  have hz := someE hF
  subst hz
  refine E4 [] (R2 (AI TV TV))
 rcases z1 with z1a | z1b
 ·dsimp only [sumF] at hF
  refine AI (OL (OL (condI hF (fun hF=>?_) (fun hF=>?_)))) TV
  ·refine OL ?_
   have hy := someE hF
   subst hy
   refine AI rfl (E4 [] (R2 (AI TV TV)))
  refine OL ?_
  have hy := someE hF
  subst hy
  refine AI rfl (E4 [] (R2 (AI TV TV)))
 dsimp only [sumF] at hF
 refine AI ?_ TV
 have hy := someE hF
 subst hy
 refine AI rfl (E4 [] (R2 (AI TV TV)))
theorem C68_holds : C68.Holds Tryz.prog 68 := holds_of_vc tab_ok mixed (fn := Tryz.f68) (by kernel_rfl) rfl C68 (fun x y hF=>C68_vc x.1 x.2 y hF)
theorem f68_in : InP 68 := ⟨Tryz.f68,by kernel_rfl,by kernel_rfl,by kernel_rfl⟩
def f120_68_j3 (a : (List Int)×(List Int)) (b : (List Int)×(List Int)) : Option Bool :=
 bindF (f86 (a.1,a.2)) fun r9 =>
 bif (!r9) then
 some true
 else
 bindF (f86 (b.1,b.2)) fun r10 =>
 some (!r10)
def f120_68_j2 (a : (List Int)×(List Int)) (b : (List Int)×(List Int)) : Option (Sum Unit Unit) :=
 bindF (f120_68_j3 a b) fun z8 =>
 bif z8 then
 some (Sum.inr ())
 else
 some (Sum.inl ())
def f120_68_l4 (a : (List Int)×(List Int)) (b : (List Int)×(List Int)) (r12 : Int×(List Int)×(List Int)) (q7_3 : List Int) (q7_7 : List Int) (go : (Int×(List Int)) → Option (List Int)) (v52:Int) (l7 : List Int) : Option (List Int) :=
 bif (decide (v52 < (List.length r12.2.2:Int))) then
 guardF (0 ≤ v52 ∧ v52 < (List.length q7_3:Int)) <|
 guardF (0 ≤ (rd (0:Int) q7_3 v52) ∧ (rd (0:Int) q7_3 v52) < (List.length a.2:Int)) <|
 guardF (0 ≤ v52 ∧ v52 < (List.length q7_7:Int)) <|
 guardF (0 ≤ (rd (0:Int) q7_7 v52) ∧ (rd (0:Int) q7_7 v52) < (List.length b.2:Int)) <|
 bindF (f68 (rd (0:Int) a.2 (rd (0:Int) q7_3 v52)) (rd (0:Int) b.2 (rd (0:Int) q7_7 v52))) fun q11_20 =>
 guardF (0 ≤ v52 ∧ v52 < (List.length l7:Int)) <|
 go ((i64.wrap (v52 + (1:Int))),(List.set l7 (Int.toNat v52) q11_20))
 else
 some l7
def f120_68 (a : (List Int)×(List Int)) (b : (List Int)×(List Int)) : Option (Int×(List Int)×(List Int)) :=
 bindF (f120_68_j2 a b) fun z5 =>
 sumF z5 (fun z5a =>
 bindF (f141 a.1 b.1) fun r11 =>
 bif (r11.1 != (0:Int)) then
 some (r11.1,[],[])
 else
 bindF (f52 r11.2 (0:Int)) fun r12 =>
 bindF (f142 a.1 r11.2) fun q7_3 =>
 bindF (f142 b.1 r11.2) fun q7_7 =>
 bindF (loopF (fun go x=>f120_68_l4 a b r12 q7_3 q7_7 go x.1 x.2) fuelN ((0:Int),r12.2.2)) fun z13 =>
 some ((0:Int),r12.2.1,z13)) (fun z5b =>
 some ((1:Int),[],[]))
def C120_68 : Con where
 X := ((List Int)×(List Int))×((List Int)×(List Int))
 Y := Int×(List Int)×(List Int)
 e := 0
 args x := [.dat T7 x.1,.dat T7 x.2,.raw false [(.c (.func (.func 68) #[] #[]))]]
 hin x := []
 F x := f120_68 x.1 x.2
 ret y := [.raw true [(.osl 0),(.osl 1)],.dat T0 y.1]
 hout y := [(0,.arr 3 T0 y.2.1),(1,.arr 23 T0 y.2.2)]
 nout := 2
theorem C120_68_vc (a : (List Int)×(List Int)) (b : (List Int)×(List Int)) (y : Int×(List Int)×(List Int)) (hF : f120_68 a b = some y) : VC Tryz.f120 C120_68 (a,b) y := by
 unfold f120_68 at hF
 refine OL ?_
 obtain ⟨z5,hz5,hF⟩ := bindE hF
 refine OQ ⟨Sum.elim (fun z5a=>[(0,⟨[(2,.raw false [(.c (.func (.func 68) #[] #[]))]),(3,P0 0 0),(4,P0 1 0),(6,P0 2 0)],[(0,.cells [(.d T4 a.1),(.d T4 a.2)]),(1,.cells [(.d T4 b.1),(.d T4 b.2)]),(2,.cells [N0,N0])],3⟩)]) (fun z5b=>[(1,⟨[(6,P0 0 0),(7,D0 1)],[(0,.cells [N0,N0])],1⟩)]) z5,?_,?_⟩
 ·have hF := hz5
  clear hz5
  unfold f120_68_j2 at hF
  obtain ⟨z8,hz8,hF⟩ := bindE hF
  refine OQ ⟨[(0,⟨[(2,.raw false [(.c (.func (.func 68) #[] #[]))]),(3,P0 0 0),(4,P0 1 0),(6,P0 2 0),(22,.dat .bool z8)],[(0,.cells [(.d T4 a.1),(.d T4 a.2)]),(1,.cells [(.d T4 b.1),(.d T4 b.2)]),(2,.cells [N0,N0])],3⟩)],?_,?_⟩
  ·have hF := hz8
   clear hz8
   unfold f120_68_j3 at hF
   obtain ⟨r9,hr9,hF⟩ := bindE hF
   refine OL (AI f86_in (callV0 (callI C86 (a.1,a.2) r9 [] false C86_holds hr9 rfl rfl (R2 (AI (fun h=>nomatch h) (R2 (AI TV (AI TV (condN hF (fun hF=>?_) (fun hF=>?_))))))))))
   ·refine gdYF ?_
    obtain ⟨r10,hr10,hF⟩ := bindE hF
    refine OL (AI f86_in (callV0 (callI C86 (b.1,b.2) r10 [] false C86_holds hr10 rfl rfl (R2 (AI (fun h=>nomatch h) (R2 (AI TV (AI TV (gdYF (condF ?_))))))))))
    have hz := someE hF
    subst hz
    refine E4 [(0,some 0),(1,some 1),(2,some 2)] (R2 (AI (R4 TV) (R3 TV)))
   refine gdNF (gdNF (condT ?_))
   have hz := someE hF
   subst hz
   refine E4 [(0,some 0),(1,some 1),(2,some 2)] (R2 (AI (R4 TV) (R3 TV)))
  refine AI (condI hF (fun hF=>?_) (fun hF=>?_)) TV
  ·refine OL (OL ?_)
   have hz := someE hF
   subst hz
   refine E4 [(0,some 2)] (R2 (AI (AI rfl TV) (AI rfl TV)))
  have hz := someE hF
  subst hz
  refine E4 [(0,some 0),(1,some 1),(2,some 2)] (AI rfl (AI (R4 TV) (R3 TV)))
 rcases z5 with z5a | z5b
 ·dsimp only [sumF] at hF
  refine AI (OL ?_) TV
  obtain ⟨r11,hr11,hF⟩ := bindE hF
  refine OL (AI f141_in (callV0 (callI C141 (a.1,b.1) r11 [] false C141_holds hr11 rfl rfl (R2 (AI (fun h=>nomatch h) (R2 (AI TV (AI TV (OL (OL (condI hF (fun hF=>?_) (fun hF=>?_))))))))))))
  ·refine OL (OL ?_)
   have hy := someE hF
   subst hy
   refine AI rfl (E4 [(0,none),(1,none)] (R2 (AI (AI rfl TV) (R2 TV))))
  refine OL ?_
  obtain ⟨r12,hr12,hF⟩ := bindE hF
  refine OL (AI f52_in (callV0 (callI C52 (r11.2,(0:Int)) r12 [] true C52_holds hr12 rfl rfl (R2 (AI (fun _=>rfl) (R2 (AI TV (AI TV (OL (OL (EI (.take 0 (.take 1 (.take 2 (.take 4 (.take 5 (.take 6 (.alt 3 (.alt 7 (.take 8 (.take 9 .done)) .done) .done))))))) (EI [] (EI [] (AI rfl (AI TV ?_)))))))))))))))
  obtain ⟨q7_3,hq7_3,hF⟩ := bindE hF
  refine OL (AI f142_in (callV0 (callI C142 (a.1,r11.2) q7_3 [] true C142_holds hq7_3 rfl rfl (R2 (AI (fun _=>rfl) (R2 (AI TV (AI TV (AI TV ?_)))))))))
  obtain ⟨q7_7,hq7_7,hF⟩ := bindE hF
  refine OL (AI f142_in (callV0 (callI C142 (b.1,r11.2) q7_7 [] true C142_holds hq7_7 rfl rfl (R2 (AI (fun _=>rfl) (R2 (AI TV (AI TV (OL (OL ?_))))))))))
  obtain ⟨z13,hz13,hF⟩ := bindE hF
  refine loopI (Int×(List Int)) (List Int) (fun x=>⟨[(2,.raw false [(.c (.func (.func 68) #[] #[]))]),(3,P0 0 0),(4,P0 1 0),(6,P0 2 0),(10,P0 3 0),(12,O0 4),(13,O0 5),(51,.dat T0 (List.length r12.2.2:Int)),(52,.dat T0 x.1)],[(0,.cells [(.d T4 a.1),(.d T4 a.2)]),(1,.cells [(.d T4 b.1),(.d T4 b.2)]),(2,.cells [N0,N0]),(3,.cells [(.osl 6),(.osl 7)]),(4,.arr 3 T0 q7_3),(5,.arr 3 T0 q7_7),(6,.arr 3 T0 r12.2.1),(7,.arr 23 T0 x.2)],8⟩) (fun z=>[(2,⟨[(6,P0 0 0),(10,P0 1 0)],[(0,.cells [N0,N0]),(1,.cells [(.osl 2),(.osl 3)]),(2,.arr 3 T0 r12.2.1),(3,.arr 23 T0 z)],4⟩)]) (loopF (fun go x=>f120_68_l4 a b r12 q7_3 q7_7 go x.1 x.2)) fuelN ((0:Int),r12.2.2) z13 (AI hz13 (AI (E4 [(0,some 0),(1,some 1),(2,some 2),(3,some 6),(4,some 7),(5,some 8),(6,some 4),(7,some 5)] (R3 (AI (R7 TV) (R8 TV)))) (AI (fun _ _ h=>loopZ h) (AI (fun m=>curI (fun v52=>fun l7 z hF=>?_)) ?_))))
  ·have hF : f120_68_l4 a b r12 q7_3 q7_7 (loopF (fun go x=>f120_68_l4 a b r12 q7_3 q7_7 go x.1 x.2) m) v52 l7 = some z := hF
   unfold f120_68_l4 at hF
   refine OL (OL (condI hF (fun hF=>?_) (fun hF=>?_)))
   ·refine OL (OL (EI (.take 0 (.take 1 (.take 2 (.take 3 (.take 4 (.take 5 (.take 6 (.take 7 (.take 8 (.take 9 (.take 10 (.take 11 (.take 12 (.take 13 (.take 14 (.take 15 (.take 16 (.take 17 (.take 18 (.take 19 (.alt 20 (.take 21 (.alt 22 .done .done)) .done))))))))))))))))))))) (EI [] (EI [] (AI rfl (guardI hF (fun hF=>?_)))))))
    refine guardI hF (fun hF=>?_)
    refine guardI hF (fun hF=>?_)
    refine guardI hF (fun hF=>?_)
    refine AI TV ?_
    obtain ⟨q11_20,hq11_20,hF⟩ := bindE hF
    refine OL (AI f68_in (callV0 (callI C68 ((rd (0:Int) a.2 (rd (0:Int) q7_3 v52)),(rd (0:Int) b.2 (rd (0:Int) q7_7 v52))) q11_20 [] false C68_holds hq11_20 rfl rfl (R2 (AI (fun h=>nomatch h) (R2 (AI TV (AI TV (guardI hF (fun hF=>?_))))))))))
    refine AI TV (OL (EI ((i64.wrap (v52 + (1:Int))),(List.set l7 (Int.toNat v52) q11_20)) (AI hF (E4 [(0,some 0),(1,some 1),(2,some 2),(3,some 3),(4,some 4),(5,some 5),(6,some 6),(7,some 7)] (R3 (AI (R7 TV) (R8 TV)))))))
   have hz := someE hF
   subst hz
   refine E4 [(0,some 2),(1,some 3),(2,some 6),(3,some 7)] (AI rfl (AI (R2 TV) (R4 TV)))
  refine AI (OL (OL ?_)) TV
  have hy := someE hF
  subst hy
  refine AI rfl (E4 [(0,some 2),(1,some 3)] (R2 (AI (AI rfl TV) (R2 TV))))
 dsimp only [sumF] at hF
 refine AI ?_ TV
 have hy := someE hF
 subst hy
 refine AI rfl (E4 [(0,none),(1,none)] (R2 (AI (AI rfl TV) (R2 TV))))
theorem C120_68_holds : C120_68.Holds Tryz.prog 120 := holds_of_vc tab_ok mixed (fn := Tryz.f120) (by kernel_rfl) rfl C120_68 (fun x y hF=>C120_68_vc x.1 x.2 y hF)
theorem f120_68_in : ∃ fn,Tryz.prog.funcs[120]? = some fn ∧ fn.body.isSome = true ∧ (fn.name == "runtime.NumGoroutine") = false := ⟨Tryz.f120,by kernel_rfl,by kernel_rfl,by kernel_rfl⟩
def f173 (a : (List Int)×(List Int)) (b : (List Int)×(List Int)) : Option (Int×(List Int)×(List Int)) :=
 bindF (f120_68 (a.1,a.2) (b.1,b.2)) fun r1 =>
 some (r1.1,r1.2.1,r1.2.2)
def C173 : Con where
 X := ((List Int)×(List Int))×((List Int)×(List Int))
 Y := Int×(List Int)×(List Int)
 e := 0
 args x := [.dat T7 x.1,.dat T7 x.2]
 hin x := []
 F x := f173 x.1 x.2
 ret y := [.raw true [(.osl 0),(.osl 1)],.dat T0 y.1]
 hout y := [(0,.arr 3 T0 y.2.1),(1,.arr 23 T0 y.2.2)]
 nout := 2
theorem C173_vc (a : (List Int)×(List Int)) (b : (List Int)×(List Int)) (y : Int×(List Int)×(List Int)) (hF : f173 a b = some y) : VC Tryz.f173 C173 (a,b) y := by
 unfold f173 at hF
 refine OL (OL ?_)
 obtain ⟨r1,hr1,hF⟩ := bindE hF
 refine OL (AI f120_68_in (callV0 (callI C120_68 ((a.1,a.2),(b.1,b.2)) r1 [] false C120_68_holds hr1 rfl rfl (R4 (AI (fun h=>nomatch h) (R2 (AI (AI rfl TV) (AI TV (OL ?_)))))))))
 have hy := someE hF
 subst hy
 refine AI rfl (E4 [(0,some 3),(1,some 4)] (R2 (AI (AI rfl TV) (R2 TV))))
theorem C173_holds : C173.Holds Tryz.prog 173 := holds_of_vc tab_ok mixed (fn := Tryz.f173) (by kernel_rfl) rfl C173 (fun x y hF=>C173_vc x.1 x.2 y hF)
theorem f173_in : InP 173 := ⟨Tryz.f173,by kernel_rfl,by kernel_rfl,by kernel_rfl⟩
def f96 (v:Int) : Option Int :=
 bif (decide (v < (0:Int))) then
 some (u64.wrap (0 - (u64.wrap v)))
 else
 some (u64.wrap v)
def C96 : Con where
 X := Int
 Y := Int
 e := 0
 args x := [.dat T0 x]
 hin x := []
 F x := f96 x
 ret y := [.dat T8 y]
 hout y := []
 nout := 0
theorem C96_vc (v:Int) (y:Int) (hF : f96 v = some y) : VC Tryz.f96 C96 v y := by
 unfold f96 at hF
 refine OL (OL (OL (condI hF (fun hF=>?_) (fun hF=>?_))))
 ·refine OL ?_
  have hy := someE hF
  subst hy
  refine AI rfl (E4 [] (R2 (AI TV TV)))
 refine OL ?_
 have hy := someE hF
 subst hy
 refine AI rfl (E4 [] (R2 (AI TV TV)))
theorem C96_holds : C96.Holds Tryz.prog 96 := holds_of_vc tab_ok mixed (fn := Tryz.f96) (by kernel_rfl) rfl C96 (fun x y hF=>C96_vc x y hF)
theorem f96_in : InP 96 := ⟨Tryz.f96,by kernel_rfl,by kernel_rfl,by kernel_rfl⟩
def f97_j1 (hi:Int) (lo:Int) (below : Bool) : Option Bool :=
 bif below then
 bif (decide (hi > (0:Int))) then
 some true
 else
 some (decide (lo ≥ (9223372036854775808:Int)))
 else
 some false
def f97 (hi:Int) (lo:Int) (below : Bool) : Option Int :=
 bindF (f97_j1 hi lo below) fun z1 =>
 bif z1 then
 some (-9223372036854775808:Int)
 else
 bif below then
 some (i64.wrap (0 - (i64.wrap lo)))
 else
 bif (decide (hi > (0:Int))) then
 some (9223372036854775807:Int)
 else
 bif (decide (lo ≥ (9223372036854775808:Int))) then
 some (9223372036854775807:Int)
 else
 some (i64.wrap lo)
def C97 : Con where
 X := Int×Int×Bool
 Y := Int
 e := 0
 args x := [.dat T8 x.1,.dat T8 x.2.1,.dat .bool x.2.2]
 hin x := []
 F x := f97 x.1 x.2.1 x.2.2
 ret y := [.dat T0 y]
 hout y := []
 nout := 0
theorem C97_vc (hi:Int) (lo:Int) (below : Bool) (y:Int) (hF : f97 hi lo below = some y) : VC Tryz.f97 C97 (hi,lo,below) y := by
 unfold f97 at hF
 refine OL (OL ?_)
 obtain ⟨z1,hz1,hF⟩ := bindE hF
 refine OQ ⟨[(0,⟨[(0,.dat T8 hi),(1,.dat T8 lo),(2,.dat .bool below),(7,.dat .bool z1)],[],0⟩)],?_,?_⟩
 ·have hF := hz1
  clear hz1
  unfold f97_j1 at hF
  refine condI hF (fun hF=>?_) (fun hF=>?_)
  ·refine gdYT (gdYT (condN hF (fun hF=>?_) (fun hF=>?_)))
   ·refine gdYF (gdYT (condF (condT ?_)))
    have hz := someE hF
    subst hz
    refine E4 [] (R5 (AI TV TV))
   refine gdNF (gdYT (condT (condT ?_)))
   have hz := someE hF
   subst hz
   refine E4 [] (R5 (AI TV TV))
  refine gdNT (gdNT (gdNT (condF ?_)))
  have hz := someE hF
  subst hz
  refine E4 [] (R5 (AI TV TV))
 refine AI (condI hF (fun hF=>?_) (fun hF=>?_)) TV
 ·refine OL ?_
  have hy := someE hF
  subst hy
  refine AI rfl (E4 [] (R2 (AI TV TV)))
 refine OL (condI hF (fun hF=>?_) (fun hF=>?_))
 ·refine OL ?_
  have hy := someE hF
  subst hy
  refine AI rfl (E4 [] (R2 (AI TV TV)))
 refine OL (condN hF (fun hF=>?_) (fun hF=>?_))
 ·refine gdYF (condF (condI hF (fun hF=>?_) (fun hF=>?_)))
  ·refine OL ?_
   have hy := someE hF
   subst hy
   refine AI rfl (E4 [] (R2 (AI TV TV)))
  refine OL ?_
  have hy := someE hF
  subst hy
  refine AI rfl (E4 [] (R2 (AI TV TV)))
 refine gdNF (condT (condT (OL ?_)))
 have hy := someE hF
 subst hy
 refine AI rfl (E4 [] (R2 (AI TV TV)))
theorem C97_holds : C97.Holds Tryz.prog 97 := holds_of_vc tab_ok mixed (fn := Tryz.f97) (by kernel_rfl) rfl C97 (fun x y hF=>C97_vc x.1 x.2.1 x.2.2 y hF)
theorem f97_in : InP 97 := ⟨Tryz.f97,by kernel_rfl,by kernel_rfl,by kernel_rfl⟩
def f66_j3 (r3 : Int×Int) : Option Bool :=
 bif (decide ((bitsOf IntKind.u64 (fun p q=>p &&& q) r3.2 (4294967295:Int)) > (2147483648:Int))) then
 some true
 else
 bif ((bitsOf IntKind.u64 (fun p q=>p &&& q) r3.2 (4294967295:Int)) == (2147483648:Int)) then
 some ((bitsOf IntKind.u64 (fun p q=>p &&& q) (bitsOf IntKind.u64 (fun p q=>p ||| q) (u64.wrap (r3.1 * 2 ^ min (Int.toNat (32:Int)) (IntKind.bits IntKind.u64))) (Int.fdiv r3.2 (2 ^ min (Int.toNat (32:Int)) (IntKind.bits IntKind.u64)))) (1:Int)) == (1:Int))
 else
 some false
def f66_j2 (r3 : Int×Int) : Option (Int×Int) :=
 bindF (f66_j3 r3) fun z7 =>
 bif z7 then
 bindF (add64 (bitsOf IntKind.u64 (fun p q=>p ||| q) (u64.wrap (r3.1 * 2 ^ min (Int.toNat (32:Int)) (IntKind.bits IntKind.u64))) (Int.fdiv r3.2 (2 ^ min (Int.toNat (32:Int)) (IntKind.bits IntKind.u64)))) (1:Int) (0:Int)) fun r8 =>
 some (r8.1,(u64.wrap ((Int.fdiv r3.1 (2 ^ min (Int.toNat (32:Int)) (IntKind.bits IntKind.u64))) + r8.2)))
 else
 some ((bitsOf IntKind.u64 (fun p q=>p ||| q) (u64.wrap (r3.1 * 2 ^ min (Int.toNat (32:Int)) (IntKind.bits IntKind.u64))) (Int.fdiv r3.2 (2 ^ min (Int.toNat (32:Int)) (IntKind.bits IntKind.u64)))),(Int.fdiv r3.1 (2 ^ min (Int.toNat (32:Int)) (IntKind.bits IntKind.u64))))
def f66 (a:Int) (b:Int) : Option Int :=
 bindF (f96 a) fun r1 =>
 bindF (f96 b) fun r2 =>
 bindF (f95 r1 r2) fun r3 =>
 bindF (f66_j2 r3) fun z6 =>
 bindF (f97 z6.2 z6.1 (!((decide (a < (0:Int))) == (decide (b < (0:Int)))))) fun r9 =>
 some r9
def C66 : Con where
 X := Int×Int
 Y := Int
 e := 0
 args x := [.dat T0 x.1,.dat T0 x.2]
 hin x := []
 F x := f66 x.1 x.2
 ret y := [.dat T0 y]
 hout y := []
 nout := 0
theorem C66_vc (a:Int) (b:Int) (y:Int) (hF : f66 a b = some y) : VC Tryz.f66 C66 (a,b) y := by
 unfold f66 at hF
 refine OL (OL ?_)
 obtain ⟨r1,hr1,hF⟩ := bindE hF
 refine OL (AI f96_in (callV0 (callI C96 a r1 [] false C96_holds hr1 rfl rfl (AI rfl (AI (fun h=>nomatch h) (R2 (AI TV (AI TV ?_))))))))
 obtain ⟨r2,hr2,hF⟩ := bindE hF
 refine OL (AI f96_in (callV0 (callI C96 b r2 [] false C96_holds hr2 rfl rfl (AI rfl (AI (fun h=>nomatch h) (R2 (AI TV (AI TV ?_))))))))
 obtain ⟨r3,hr3,hF⟩ := bindE hF
 refine OL (AI f95_in (callV0 (callI C95 (r1,r2) r3 [] false C95_holds hr3 rfl rfl (R2 (AI (fun h=>nomatch h) (R2 (AI TV (AI TV (OL (OL (AI (by decide) (AI (by decide) (OL (AI (by decide) ?_))))))))))))))
 obtain ⟨z6,hz6,hF⟩ := bindE hF
 refine OQ ⟨[(0,⟨[(0,.dat T0 a),(1,.dat T0 b),(8,.dat T8 z6.1),(9,.dat T8 z6.2)],[],0⟩)],?_,?_⟩
 ·have hF := hz6
  clear hz6
  unfold f66_j2 at hF
  obtain ⟨z7,hz7,hF⟩ := bindE hF
  refine OQ ⟨[(0,⟨[(0,.dat T0 a),(1,.dat T0 b),(8,.dat T8 (bitsOf IntKind.u64 (fun p q=>p ||| q) (u64.wrap (r3.1 * 2 ^ min (Int.toNat (32:Int)) (IntKind.bits IntKind.u64))) (Int.fdiv r3.2 (2 ^ min (Int.toNat (32:Int)) (IntKind.bits IntKind.u64))))),(9,.dat T8 (Int.fdiv r3.1 (2 ^ min (Int.toNat (32:Int)) (IntKind.bits IntKind.u64)))),(38,.dat .bool z7)],[],0⟩)],?_,?_⟩
  ·have hF := hz7
   clear hz7
   unfold f66_j3 at hF
   refine condN hF (fun hF=>?_) (fun hF=>?_)
   ·refine gdYF (gdYF (condI hF (fun hF=>?_) (fun hF=>?_)))
    ·refine gdYT (gdYT (gdYF (condT (condF ?_))))
     have hz := someE hF
     subst hz
     refine E4 [] (R6 (AI TV TV))
    refine gdNT (gdNT (gdYF (condF (condF ?_))))
    have hz := someE hF
    subst hz
    refine E4 [] (R6 (AI TV TV))
   refine gdNF (gdNF (gdNF (condT ?_)))
   have hz := someE hF
   subst hz
   refine E4 [] (R6 (AI TV TV))
  refine AI (condI hF (fun hF=>?_) (fun hF=>?_)) TV
  ·refine OL (OL ?_)
   obtain ⟨r8,hr8,hF⟩ := bindE hF
   refine OQ ⟨ext3 add64,[r8.1,r8.2],add64_ok,AI (ext3I hr8) ?_⟩
   have hz := someE hF
   subst hz
   refine E4 [] (R5 (AI TV TV))
  have hz := someE hF
  subst hz
  refine E4 [] (R5 (AI TV TV))
 refine AI (OL ?_) TV
 obtain ⟨r9,hr9,hF⟩ := bindE hF
 refine OL (AI f97_in (callV0 (callI C97 (z6.2,z6.1,(!((decide (a < (0:Int))) == (decide (b < (0:Int)))))) r9 [] false C97_holds hr9 rfl rfl (R3 (AI (fun h=>nomatch h) (R2 (AI TV (AI TV ?_))))))))
 have hy := someE hF
 subst hy
 refine AI rfl (E4 [] (R2 (AI TV TV)))
theorem C66_holds : C66.Holds Tryz.prog 66 := holds_of_vc tab_ok mixed (fn := Tryz.f66) (by kernel_rfl) rfl C66 (fun x y hF=>C66_vc x.1 x.2 y hF)
theorem f66_in : InP 66 := ⟨Tryz.f66,by kernel_rfl,by kernel_rfl,by kernel_rfl⟩
def f120_66_j3 (a : (List Int)×(List Int)) (b : (List Int)×(List Int)) : Option Bool :=
 bindF (f86 (a.1,a.2)) fun r9 =>
 bif (!r9) then
 some true
 else
 bindF (f86 (b.1,b.2)) fun r10 =>
 some (!r10)
def f120_66_j2 (a : (List Int)×(List Int)) (b : (List Int)×(List Int)) : Option (Sum Unit Unit) :=
 bindF (f120_66_j3 a b) fun z8 =>
 bif z8 then
 some (Sum.inr ())
 else
 some (Sum.inl ())
def f120_66_l4 (a : (List Int)×(List Int)) (b : (List Int)×(List Int)) (r12 : Int×(List Int)×(List Int)) (q7_3 : List Int) (q7_7 : List Int) (go : (Int×(List Int)) → Option (List Int)) (v52:Int) (l7 : List Int) : Option (List Int) :=
 bif (decide (v52 < (List.length r12.2.2:Int))) then
 guardF (0 ≤ v52 ∧ v52 < (List.length q7_3:Int)) <|
 guardF (0 ≤ (rd (0:Int) q7_3 v52) ∧ (rd (0:Int) q7_3 v52) < (List.length a.2:Int)) <|
 guardF (0 ≤ v52 ∧ v52 < (List.length q7_7:Int)) <|
 guardF (0 ≤ (rd (0:Int) q7_7 v52) ∧ (rd (0:Int) q7_7 v52) < (List.length b.2:Int)) <|
 bindF (f66 (rd (0:Int) a.2 (rd (0:Int) q7_3 v52)) (rd (0:Int) b.2 (rd (0:Int) q7_7 v52))) fun q11_20 =>
 guardF (0 ≤ v52 ∧ v52 < (List.length l7:Int)) <|
 go ((i64.wrap (v52 + (1:Int))),(List.set l7 (Int.toNat v52) q11_20))
 else
 some l7
def f120_66 (a : (List Int)×(List Int)) (b : (List Int)×(List Int)) : Option (Int×(List Int)×(List Int)) :=
 bindF (f120_66_j2 a b) fun z5 =>
 sumF z5 (fun z5a =>
 bindF (f141 a.1 b.1) fun r11 =>
 bif (r11.1 != (0:Int)) then
 some (r11.1,[],[])
 else
 bindF (f52 r11.2 (0:Int)) fun r12 =>
 bindF (f142 a.1 r11.2) fun q7_3 =>
 bindF (f142 b.1 r11.2) fun q7_7 =>
 bindF (loopF (fun go x=>f120_66_l4 a b r12 q7_3 q7_7 go x.1 x.2) fuelN ((0:Int),r12.2.2)) fun z13 =>
 some ((0:Int),r12.2.1,z13)) (fun z5b =>
 some ((1:Int),[],[]))
def C120_66 : Con where
 X := ((List Int)×(List Int))×((List Int)×(List Int))
 Y := Int×(List Int)×(List Int)
 e := 0
 args x := [.dat T7 x.1,.dat T7 x.2,.raw false [(.c (.func (.func 66) #[] #[]))]]
 hin x := []
 F x := f120_66 x.1 x.2
 ret y := [.raw true [(.osl 0),(.osl 1)],.dat T0 y.1]
 hout y := [(0,.arr 3 T0 y.2.1),(1,.arr 23 T0 y.2.2)]
 nout := 2
theorem C120_66_vc (a : (List Int)×(List Int)) (b : (List Int)×(List Int)) (y : Int×(List Int)×(List Int)) (hF : f120_66 a b = some y) : VC Tryz.f120 C120_66 (a,b) y := by
 unfold f120_66 at hF
 refine OL ?_
 obtain ⟨z5,hz5,hF⟩ := bindE hF
 refine OQ ⟨Sum.elim (fun z5a=>[(0,⟨[(2,.raw false [(.c (.func (.func 66) #[] #[]))]),(3,P0 0 0),(4,P0 1 0),(6,P0 2 0)],[(0,.cells [(.d T4 a.1),(.d T4 a.2)]),(1,.cells [(.d T4 b.1),(.d T4 b.2)]),(2,.cells [N0,N0])],3⟩)]) (fun z5b=>[(1,⟨[(6,P0 0 0),(7,D0 1)],[(0,.cells [N0,N0])],1⟩)]) z5,?_,?_⟩
 ·have hF := hz5
  clear hz5
  unfold f120_66_j2 at hF
  obtain ⟨z8,hz8,hF⟩ := bindE hF
  refine OQ ⟨[(0,⟨[(2,.raw false [(.c (.func (.func 66) #[] #[]))]),(3,P0 0 0),(4,P0 1 0),(6,P0 2 0),(22,.dat .bool z8)],[(0,.cells [(.d T4 a.1),(.d T4 a.2)]),(1,.cells [(.d T4 b.1),(.d T4 b.2)]),(2,.cells [N0,N0])],3⟩)],?_,?_⟩
  ·have hF := hz8
   clear hz8
   unfold f120_66_j3 at hF
   obtain ⟨r9,hr9,hF⟩ := bindE hF
   refine OL (AI f86_in (callV0 (callI C86 (a.1,a.2) r9 [] false C86_holds hr9 rfl rfl (R2 (AI (fun h=>nomatch h) (R2 (AI TV (AI TV (condN hF (fun hF=>?_) (fun hF=>?_))))))))))
   ·refine gdYF ?_
    obtain ⟨r10,hr10,hF⟩ := bindE hF
    refine OL (AI f86_in (callV0 (callI C86 (b.1,b.2) r10 [] false C86_holds hr10 rfl rfl (R2 (AI (fun h=>nomatch h) (R2 (AI TV (AI TV (gdYF (condF ?_))))))))))
    have hz := someE hF
    subst hz
    refine E4 [(0,some 0),(1,some 1),(2,some 2)] (R2 (AI (R4 TV) (R3 TV)))
   refine gdNF (gdNF (condT ?_))
   have hz := someE hF
   subst hz
   refine E4 [(0,some 0),(1,some 1),(2,some 2)] (R2 (AI (R4 TV) (R3 TV)))
  refine AI (condI hF (fun hF=>?_) (fun hF=>?_)) TV
  ·refine OL (OL ?_)
   have hz := someE hF
   subst hz
   refine E4 [(0,some 2)] (R2 (AI (AI rfl TV) (AI rfl TV)))
  have hz := someE hF
  subst hz
  refine E4 [(0,some 0),(1,some 1),(2,some 2)] (AI rfl (AI (R4 TV) (R3 TV)))
 rcases z5 with z5a | z5b
 ·dsimp only [sumF] at hF
  refine AI (OL ?_) TV
  obtain ⟨r11,hr11,hF⟩ := bindE hF
  refine OL (AI f141_in (callV0 (callI C141 (a.1,b.1) r11 [] false C141_holds hr11 rfl rfl (R2 (AI (fun h=>nomatch h) (R2 (AI TV (AI TV (OL (OL (condI hF (fun hF=>?_) (fun hF=>?_))))))))))))
  ·refine OL (OL ?_)
   have hy := someE hF
   subst hy
   refine AI rfl (E4 [(0,none),(1,none)] (R2 (AI (AI rfl TV) (R2 TV))))
  refine OL ?_
  obtain ⟨r12,hr12,hF⟩ := bindE hF
  refine OL (AI f52_in (callV0 (callI C52 (r11.2,(0:Int)) r12 [] true C52_holds hr12 rfl rfl (R2 (AI (fun _=>rfl) (R2 (AI TV (AI TV (OL (OL (EI (.take 0 (.take 1 (.take 2 (.take 4 (.take 5 (.take 6 (.alt 3 (.alt 7 (.take 8 (.take 9 .done)) .done) .done))))))) (EI [] (EI [] (AI rfl (AI TV ?_)))))))))))))))
  obtain ⟨q7_3,hq7_3,hF⟩ := bindE hF
  refine OL (AI f142_in (callV0 (callI C142 (a.1,r11.2) q7_3 [] true C142_holds hq7_3 rfl rfl (R2 (AI (fun _=>rfl) (R2 (AI TV (AI TV (AI TV ?_)))))))))
  obtain ⟨q7_7,hq7_7,hF⟩ := bindE hF
  refine OL (AI f142_in (callV0 (callI C142 (b.1,r11.2) q7_7 [] true C142_holds hq7_7 rfl rfl (R2 (AI (fun _=>rfl) (R2 (AI TV (AI TV (OL (OL ?_))))))))))
  obtain ⟨z13,hz13,hF⟩ := bindE hF
  refine loopI (Int×(List Int)) (List Int) (fun x=>⟨[(2,.raw false [(.c (.func (.func 66) #[] #[]))]),(3,P0 0 0),(4,P0 1 0),(6,P0 2 0),(10,P0 3 0),(12,O0 4),(13,O0 5),(51,.dat T0 (List.length r12.2.2:Int)),(52,.dat T0 x.1)],[(0,.cells [(.d T4 a.1),(.d T4 a.2)]),(1,.cells [(.d T4 b.1),(.d T4 b.2)]),(2,.cells [N0,N0]),(3,.cells [(.osl 6),(.osl 7)]),(4,.arr 3 T0 q7_3),(5,.arr 3 T0 q7_7),(6,.arr 3 T0 r12.2.1),(7,.arr 23 T0 x.2)],8⟩) (fun z=>[(2,⟨[(6,P0 0 0),(10,P0 1 0)],[(0,.cells [N0,N0]),(1,.cells [(.osl 2),(.osl 3)]),(2,.arr 3 T0 r12.2.1),(3,.arr 23 T0 z)],4⟩)]) (loopF (fun go x=>f120_66_l4 a b r12 q7_3 q7_7 go x.1 x.2)) fuelN ((0:Int),r12.2.2) z13 (AI hz13 (AI (E4 [(0,some 0),(1,some 1),(2,some 2),(3,some 6),(4,some 7),(5,some 8),(6,some 4),(7,some 5)] (R3 (AI (R7 TV) (R8 TV)))) (AI (fun _ _ h=>loopZ h) (AI (fun m=>curI (fun v52=>fun l7 z hF=>?_)) ?_))))
  ·have hF : f120_66_l4 a b r12 q7_3 q7_7 (loopF (fun go x=>f120_66_l4 a b r12 q7_3 q7_7 go x.1 x.2) m) v52 l7 = some z := hF
   unfold f120_66_l4 at hF
   refine OL (OL (condI hF (fun hF=>?_) (fun hF=>?_)))
   ·refine OL (OL (EI (.take 0 (.take 1 (.take 2 (.take 3 (.take 4 (.take 5 (.take 6 (.take 7 (.take 8 (.take 9 (.take 10 (.take 11 (.take 12 (.take 13 (.take 14 (.take 15 (.take 16 (.take 17 (.take 18 (.take 19 (.alt 20 (.take 21 (.alt 22 .done .done)) .done))))))))))))))))))))) (EI [] (EI [] (AI rfl (guardI hF (fun hF=>?_)))))))
    refine guardI hF (fun hF=>?_)
    refine guardI hF (fun hF=>?_)
    refine guardI hF (fun hF=>?_)
    refine AI TV ?_
    obtain ⟨q11_20,hq11_20,hF⟩ := bindE hF
    refine OL (AI f66_in (callV0 (callI C66 ((rd (0:Int) a.2 (rd (0:Int) q7_3 v52)),(rd (0:Int) b.2 (rd (0:Int) q7_7 v52))) q11_20 [] false C66_holds hq11_20 rfl rfl (R2 (AI (fun h=>nomatch h) (R2 (AI TV (AI TV (guardI hF (fun hF=>?_))))))))))
    refine AI TV (OL (EI ((i64.wrap (v52 + (1:Int))),(List.set l7 (Int.toNat v52) q11_20)) (AI hF (E4 [(0,some 0),(1,some 1),(2,some 2),(3,some 3),(4,some 4),(5,some 5),(6,some 6),(7,some 7)] (R3 (AI (R7 TV) (R8 TV)))))))
   have hz := someE hF
   subst hz
   refine E4 [(0,some 2),(1,some 3),(2,some 6),(3,some 7)] (AI rfl (AI (R2 TV) (R4 TV)))
  refine AI (OL (OL ?_)) TV
  have hy := someE hF
  subst hy
  refine AI rfl (E4 [(0,some 2),(1,some 3)] (R2 (AI (AI rfl TV) (R2 TV))))
 dsimp only [sumF] at hF
 refine AI ?_ TV
 have hy := someE hF
 subst hy
 refine AI rfl (E4 [(0,none),(1,none)] (R2 (AI (AI rfl TV) (R2 TV))))
theorem C120_66_holds : C120_66.Holds Tryz.prog 120 := holds_of_vc tab_ok mixed (fn := Tryz.f120) (by kernel_rfl) rfl C120_66 (fun x y hF=>C120_66_vc x.1 x.2 y hF)
theorem f120_66_in : ∃ fn,Tryz.prog.funcs[120]? = some fn ∧ fn.body.isSome = true ∧ (fn.name == "runtime.NumGoroutine") = false := ⟨Tryz.f120,by kernel_rfl,by kernel_rfl,by kernel_rfl⟩
def f109 (a : (List Int)×(List Int)) (b : (List Int)×(List Int)) : Option (Int×(List Int)×(List Int)) :=
 bindF (f120_66 (a.1,a.2) (b.1,b.2)) fun r1 =>
 some (r1.1,r1.2.1,r1.2.2)
def C109 : Con where
 X := ((List Int)×(List Int))×((List Int)×(List Int))
 Y := Int×(List Int)×(List Int)
 e := 0
 args x := [.dat T7 x.1,.dat T7 x.2]
 hin x := []
 F x := f109 x.1 x.2
 ret y := [.raw true [(.osl 0),(.osl 1)],.dat T0 y.1]
 hout y := [(0,.arr 3 T0 y.2.1),(1,.arr 23 T0 y.2.2)]
 nout := 2
theorem C109_vc (a : (List Int)×(List Int)) (b : (List Int)×(List Int)) (y : Int×(List Int)×(List Int)) (hF : f109 a b = some y) : VC Tryz.f109 C109 (a,b) y := by
 unfold f109 at hF
 refine OL (OL ?_)
 obtain ⟨r1,hr1,hF⟩ := bindE hF
 refine OL (AI f120_66_in (callV0 (callI C120_66 ((a.1,a.2),(b.1,b.2)) r1 [] false C120_66_holds hr1 rfl rfl (R4 (AI (fun h=>nomatch h) (R2 (AI (AI rfl TV) (AI TV (OL ?_)))))))))
 have hy := someE hF
 subst hy
 refine AI rfl (E4 [(0,some 3),(1,some 4)] (R2 (AI (AI rfl TV) (R2 TV))))
theorem C109_holds : C109.Holds Tryz.prog 109 := holds_of_vc tab_ok mixed (fn := Tryz.f109) (by kernel_rfl) rfl C109 (fun x y hF=>C109_vc x.1 x.2 y hF)
theorem f109_in : InP 109 := ⟨Tryz.f109,by kernel_rfl,by kernel_rfl,by kernel_rfl⟩
def f144 (t : (List Int)×(List Int)) : Option Bool :=
 some ((List.length t.1:Int) == (2:Int))
def C144 : Con where
 X := (List Int)×(List Int)
 Y := Bool
 e := 0
 args x := [.dat T7 x]
 hin x := []
 F x := f144 x
 ret y := [.dat .bool y]
 hout y := []
 nout := 0
theorem C144_vc (t : (List Int)×(List Int)) (y : Bool) (hF : f144 t = some y) : VC Tryz.f144 C144 t y := by
 unfold f144 at hF
 refine OL (OL ?_)
 have hy := someE hF
 subst hy
 refine AI rfl (E4 [] (R2 (AI TV TV)))
theorem C144_holds : C144.Holds Tryz.prog 144 := holds_of_vc tab_ok mixed (fn := Tryz.f144) (by kernel_rfl) rfl C144 (fun x y hF=>C144_vc x y hF)
theorem f144_in : InP 144 := ⟨Tryz.f144,by kernel_rfl,by kernel_rfl,by kernel_rfl⟩
def f222_l1 (s : List Int) (v:Int) (go : Int → Option (Sum Int Unit)) (v8:Int) : Option (Sum Int Unit) :=
 bif (decide (v8 < (List.length s:Int))) then
 guardF (0 ≤ v8 ∧ v8 < (List.length s:Int)) <|
 bif (v == (rd (0:Int) s v8)) then
 some (Sum.inl v8)
 else
 go (i64.wrap (v8 + (1:Int)))
 else
 some (Sum.inr ())
def f222 (s : List Int) (v:Int) : Option Int :=
 bindF (loopF (fun go x=>f222_l1 s v go x) fuelN (0:Int)) fun z1 =>
 sumF z1 (fun z1a =>
 some z1a) (fun z1b =>
 some (-1:Int))
def C222 : Con where
 X := (List Int)×Int
 Y := Int
 e := 0
 args x := [.dat T4 x.1,.dat T0 x.2]
 hin x := []
 F x := f222 x.1 x.2
 ret y := [.dat T0 y]
 hout y := []
 nout := 0
theorem C222_vc (s : List Int) (v:Int) (y:Int) (hF : f222 s v = some y) : VC Tryz.f222 C222 (s,v) y := by
 unfold f222 at hF
 refine OL (OL (OL ?_))
 obtain ⟨z1,hz1,hF⟩ := bindE hF
 refine loopI Int (Sum Int Unit) (fun x=>⟨[(0,.dat T4 s),(1,.dat T0 v),(7,.dat T0 (List.length s:Int)),(8,.dat T0 x)],[],0⟩) (fun z=>Sum.elim (fun za=>[(1,⟨[(4,.dat T0 za)],[],0⟩)]) (fun zb=>[(2,⟨[],[],0⟩)]) z) (loopF (fun go x=>f222_l1 s v go x)) fuelN (0:Int) z1 (AI hz1 (AI (E4 [] (R5 (AI TV TV))) (AI (fun _ _ h=>loopZ h) (AI (fun m=>fun v8 z hF=>?_) ?_))))
 ·have hF : f222_l1 s v (loopF (fun go x=>f222_l1 s v go x) m) v8 = some z := hF
  unfold f222_l1 at hF
  refine OL (OL (condI hF (fun hF=>?_) (fun hF=>?_)))
  ·refine OL (OL (OL (guardI hF (fun hF=>?_))))
   refine condI hF (fun hF=>?_) (fun hF=>?_)
   ·refine OL ?_
    have hz := someE hF
    subst hz
    refine E4 [] (R2 (AI TV TV))
   refine EI (i64.wrap (v8 + (1:Int))) (AI hF (E4 [] (R5 (AI TV TV))))
  have hz := someE hF
  subst hz
  refine E4 [] (AI rfl (AI TV TV))
 rcases z1 with z1a | z1b
 ·dsimp only [sumF] at hF
  refine AI ?_ TV
  have hy := someE hF
  subst hy
  refine AI rfl (E4 [] (R2 (AI TV TV)))
 dsimp only [sumF] at hF
 refine AI (OL ?_) TV
 have hy := someE hF
 subst hy
 refine AI rfl (E4 [] (R2 (AI TV TV)))
theorem C222_holds : C222.Holds Tryz.prog 222 := holds_of_vc tab_ok mixed (fn := Tryz.f222) (by kernel_rfl) rfl C222 (fun x y hF=>C222_vc x.1 x.2 y hF)
theorem f222_in : InP 222 := ⟨Tryz.f222,by kernel_rfl,by kernel_rfl,by kernel_rfl⟩
def f199 (s : List Int) (v:Int) : Option Bool :=
 bindF (f222 s v) fun r1 =>
 some (decide (r1 ≥ (0:Int)))
def C199 : Con where
 X := (List Int)×Int
 Y := Bool
 e := 0
 args x := [.dat T4 x.1,.dat T0 x.2]
 hin x := []
 F x := f199 x.1 x.2
 ret y := [.dat .bool y]
 hout y := []
 nout := 0
theorem C199_vc (s : List Int) (v:Int) (y : Bool) (hF : f199 s v = some y) : VC Tryz.f199 C199 (s,v) y := by
 unfold f199 at hF
 refine OL (OL ?_)
 obtain ⟨r1,hr1,hF⟩ := bindE hF
 refine OL (AI f222_in (callV0 (callI C222 (s,v) r1 [] false C222_holds hr1 rfl rfl (R2 (AI (fun h=>nomatch h) (R2 (AI TV (AI TV ?_))))))))
 have hy := someE hF
 subst hy
 refine AI rfl (E4 [] (R2 (AI TV TV)))
theorem C199_holds : C199.Holds Tryz.prog 199 := holds_of_vc tab_ok mixed (fn := Tryz.f199) (by kernel_rfl) rfl C199 (fun x y hF=>C199_vc x.1 x.2 y hF)
theorem f199_in : InP 199 := ⟨Tryz.f199,by kernel_rfl,by kernel_rfl,by kernel_rfl⟩
def f183_l1 (order : List Int) (n:Int) (go : Int → Option (Sum Unit Unit)) (v11:Int) : Option (Sum Unit Unit) :=
 bif (decide (v11 < n)) then
 bindF (f199 order v11) fun r4 =>
 bif (!r4) then
 some (Sum.inl ())
 else
 go (i64.wrap (v11 + (1:Int)))
 else
 some (Sum.inr ())
def f183 (order : List Int) (n:Int) : Option Bool :=
 bif ((List.length order:Int) != n) then
 some false
 else
 bindF (loopF (fun go x=>f183_l1 order n go x) fuelN (0:Int)) fun z3 =>
 sumF z3 (fun z3a =>
 some false) (fun z3b =>
 some true)
def C183 : Con where
 X := (List Int)×Int
 Y := Bool
 e := 0
 args x := [.dat T4 x.1,.dat T0 x.2]
 hin x := []
 F x := f183 x.1 x.2
 ret y := [.dat .bool y]
 hout y := []
 nout := 0
theorem C183_vc (order : List Int) (n:Int) (y : Bool) (hF : f183 order n = some y) : VC Tryz.f183 C183 (order,n) y := by
 unfold f183 at hF
 refine OL (OL (OL (condI hF (fun hF=>?_) (fun hF=>?_))))
 ·refine OL ?_
  have hy := someE hF
  subst hy
  refine AI rfl (E4 [] (R2 (AI TV TV)))
 refine OL (OL ?_)
 obtain ⟨z3,hz3,hF⟩ := bindE hF
 refine loopI Int (Sum Unit Unit) (fun x=>⟨[(0,.dat T4 order),(10,.dat T0 n),(11,.dat T0 x)],[],0⟩) (fun z=>Sum.elim (fun za=>[(1,⟨[(4,.dat .bool false)],[],0⟩)]) (fun zb=>[(2,⟨[],[],0⟩)]) z) (loopF (fun go x=>f183_l1 order n go x)) fuelN (0:Int) z3 (AI hz3 (AI (E4 [] (R4 (AI TV TV))) (AI (fun _ _ h=>loopZ h) (AI (fun m=>fun v11 z hF=>?_) ?_))))
 ·have hF : f183_l1 order n (loopF (fun go x=>f183_l1 order n go x) m) v11 = some z := hF
  unfold f183_l1 at hF
  refine OL (OL (condI hF (fun hF=>?_) (fun hF=>?_)))
  ·refine OL (OL (OL ?_))
   obtain ⟨r4,hr4,hF⟩ := bindE hF
   refine OL (AI f199_in (callV0 (callI C199 (order,v11) r4 [] false C199_holds hr4 rfl rfl (R2 (AI (fun h=>nomatch h) (R2 (AI TV (AI TV (condI hF (fun hF=>?_) (fun hF=>?_))))))))))
   ·refine OL ?_
    have hz := someE hF
    subst hz
    refine E4 [] (R2 (AI TV TV))
   refine EI (i64.wrap (v11 + (1:Int))) (AI hF (E4 [] (R4 (AI TV TV))))
  have hz := someE hF
  subst hz
  refine E4 [] (AI rfl (AI TV TV))
 rcases z3 with z3a | z3b
 ·dsimp only [sumF] at hF
  refine AI ?_ TV
  have hy := someE hF
  subst hy
  refine AI rfl (E4 [] (R2 (AI TV TV)))
 dsimp only [sumF] at hF
 refine AI (OL ?_) TV
 have hy := someE hF
 subst hy
 refine AI rfl (E4 [] (R2 (AI TV TV)))
theorem C183_holds : C183.Holds Tryz.prog 183 := holds_of_vc tab_ok mixed (fn := Tryz.f183) (by kernel_rfl) rfl C183 (fun x y hF=>C183_vc x.1 x.2 y hF)
theorem f183_in : InP 183 := ⟨Tryz.f183,by kernel_rfl,by kernel_rfl,by kernel_rfl⟩
def f146_j1 (d : List Int) (at_:Int) : Option (Sum Unit Unit) :=
 bif (decide (at_ < (0:Int))) then
 some (Sum.inr ())
 else
 bindF (f83 d) fun r3 =>
 bif (decide (at_ ≥ r3)) then
 some (Sum.inr ())
 else
 some (Sum.inl ())
def f146_l2 (d : List Int) (go : (Int×Int×(List Int)) → Option (List Int)) (at__2:Int) (i:Int) (l0 : List Int) : Option (List Int) :=
 bif (decide (i ≥ (0:Int))) then
 guardF (0 ≤ i ∧ i < (List.length d:Int)) <|
 guardF ((rd (0:Int) d i) ≠ 0) <|
 guardF (0 ≤ i ∧ i < (List.length l0:Int)) <|
 guardF (0 ≤ i ∧ i < (List.length d:Int)) <|
 guardF ((rd (0:Int) d i) ≠ 0) <|
 go ((i64.wrap (Int.tdiv at__2 (rd (0:Int) d i))),(i64.wrap (i - (1:Int))),(List.set l0 (Int.toNat i) (Int.tmod at__2 (rd (0:Int) d i))))
 else
 some l0
def f146 (d : List Int) (at_:Int) : Option (Bool×(List Int)) :=
 bindF (f146_j1 d at_) fun z2 =>
 sumF z2 (fun z2a =>
 guardF (0 ≤ (List.length d:Int) ∧ (List.length d:Int) ≤ (List.length d:Int) ∧ Int.toNat (List.length d:Int) * 8 ≤ 140737488355328) <|
 bindF (loopF (fun go x=>f146_l2 d go x.1 x.2.1 x.2.2) fuelN (at_,(i64.wrap ((List.length d:Int) - (1:Int))),(List.replicate (Int.toNat (List.length d:Int)) (0:Int)))) fun z4 =>
 some (true,z4)) (fun z2b =>
 some (false,[]))
def C146 : Con where
 X := (List Int)×Int
 Y := Bool×(List Int)
 e := 0
 args x := [.dat T4 x.1,.dat T0 x.2]
 hin x := []
 F x := f146 x.1 x.2
 ret y := [O0 0,.dat .bool y.1]
 hout y := [(0,.arr 3 T0 y.2)]
 nout := 1
theorem C146_vc (d : List Int) (at_:Int) (y : Bool×(List Int)) (hF : f146 d at_ = some y) : VC Tryz.f146 C146 (d,at_) y := by
 unfold f146 at hF
 refine OL ?_
 obtain ⟨z2,hz2,hF⟩ := bindE hF
 refine OQ ⟨Sum.elim (fun z2a=>[(0,⟨[(0,.dat T4 d),(1,.dat T0 at_)],[],0⟩)]) (fun z2b=>[(1,⟨[(4,.raw false [N0]),(5,.dat .bool false)],[],0⟩)]) z2,?_,?_⟩
 ·have hF := hz2
  clear hz2
  unfold f146_j1 at hF
  refine OL (condN hF (fun hF=>?_) (fun hF=>?_))
  ·refine gdYF (gdYF ?_)
   obtain ⟨r3,hr3,hF⟩ := bindE hF
   refine OL (AI f83_in (callV0 (callI C83 d r3 [] false C83_holds hr3 rfl rfl (AI rfl (AI (fun h=>nomatch h) (R2 (AI TV (AI TV (gdYF (condF (condI hF (fun hF=>?_) (fun hF=>?_))))))))))))
   ·refine OL ?_
    have hz := someE hF
    subst hz
    refine E4 [] (R2 (AI (AI rfl TV) TV))
   have hz := someE hF
   subst hz
   refine E4 [] (R3 (AI TV TV))
  refine gdNF (gdNF (gdNF (condT (condT (OL ?_)))))
  have hz := someE hF
  subst hz
  refine E4 [] (R2 (AI (AI rfl TV) TV))
 rcases z2 with z2a | z2b
 ·dsimp only [sumF] at hF
  refine AI (OL (guardI hF (fun hF=>?_))) TV
  refine OL (OL ?_)
  obtain ⟨z4,hz4,hF⟩ := bindE hF
  refine loopI (Int×Int×(List Int)) (List Int) (fun x=>⟨[(0,.dat T4 d),(1,.dat T0 x.1),(6,O0 0),(7,.dat T0 x.2.1)],[(0,.arr 3 T0 x.2.2)],1⟩) (fun z=>[(2,⟨[(6,O0 0)],[(0,.arr 3 T0 z)],1⟩)]) (loopF (fun go x=>f146_l2 d go x.1 x.2.1 x.2.2)) fuelN (at_,(i64.wrap ((List.length d:Int) - (1:Int))),(List.replicate (Int.toNat (List.length d:Int)) (0:Int))) z4 (AI hz4 (AI (E4 [(0,some 0)] (R4 (AI (AI rfl TV) (AI rfl TV)))) (AI (fun _ _ h=>loopZ h) (AI (fun m=>curI (fun at__2=>curI (fun i=>fun l0 z hF=>?_))) ?_))))
  ·have hF : f146_l2 d (loopF (fun go x=>f146_l2 d go x.1 x.2.1 x.2.2) m) at__2 i l0 = some z := hF
   unfold f146_l2 at hF
   refine OL (OL (condI hF (fun hF=>?_) (fun hF=>?_)))
   ·refine OL (OL (guardI hF (fun hF=>?_)))
    refine guardI hF (fun hF=>?_)
    refine guardI hF (fun hF=>?_)
    refine OL (guardI hF (fun hF=>?_))
    refine guardI hF (fun hF=>?_)
    refine EI ((i64.wrap (Int.tdiv at__2 (rd (0:Int) d i))),(i64.wrap (i - (1:Int))),(List.set l0 (Int.toNat i) (Int.tmod at__2 (rd (0:Int) d i)))) (AI hF (E4 [(0,some 0)] (R4 (AI (AI rfl TV) (AI rfl TV)))))
   have hz := someE hF
   subst hz
   refine E4 [(0,some 0)] (AI rfl (AI (AI rfl TV) (AI rfl TV)))
  refine AI (OL ?_) TV
  have hy := someE hF
  subst hy
  refine AI rfl (E4 [(0,some 0)] (R2 (AI (AI rfl TV) (AI rfl TV))))
 dsimp only [sumF] at hF
 refine AI ?_ TV
 have hy := someE hF
 subst hy
 refine AI rfl (E4 [(0,none)] (R2 (AI (AI rfl TV) (AI rfl TV))))
theorem C146_holds : C146.Holds Tryz.prog 146 := holds_of_vc tab_ok mixed (fn := Tryz.f146) (by kernel_rfl) rfl C146 (fun x y hF=>C146_vc x.1 x.2 y hF)
theorem f146_in : InP 146 := ⟨Tryz.f146,by kernel_rfl,by kernel_rfl,by kernel_rfl⟩
def f147_j1 (d : List Int) (place_ : List Int) : Option (Sum Unit Unit) :=
 bindF (f72 d) fun r3 =>
 bif (!r3) then
 some (Sum.inr ())
 else
 bif ((List.length place_:Int) != (List.length d:Int)) then
 some (Sum.inr ())
 else
 some (Sum.inl ())
def f147_j5 (d : List Int) (place_ : List Int) (v21:Int) : Option (Sum Unit Unit) :=
 bif (decide ((rd (0:Int) place_ v21) < (0:Int))) then
 some (Sum.inr ())
 else
 guardF (0 ≤ v21 ∧ v21 < (List.length d:Int)) <|
 bif (decide ((rd (0:Int) place_ v21) ≥ (rd (0:Int) d v21))) then
 some (Sum.inr ())
 else
 some (Sum.inl ())
def f147_l4 (d : List Int) (place_ : List Int) (go : (Int×Int) → Option (Sum Unit Int)) (at_:Int) (v21:Int) : Option (Sum Unit Int) :=
 bif (decide (v21 < (List.length place_:Int))) then
 guardF (0 ≤ v21 ∧ v21 < (List.length place_:Int)) <|
 bindF (f147_j5 d place_ v21) fun z7 =>
 sumF z7 (fun z7a =>
 guardF (0 ≤ v21 ∧ v21 < (List.length d:Int)) <|
 go ((i64.wrap ((i64.wrap (at_ * (rd (0:Int) d v21))) + (rd (0:Int) place_ v21))),(i64.wrap (v21 + (1:Int))))) (fun z7b =>
 some (Sum.inl ()))
 else
 some (Sum.inr at_)
def f147 (d : List Int) (place_ : List Int) : Option (Int×Bool) :=
 bindF (f147_j1 d place_) fun z2 =>
 sumF z2 (fun z2a =>
 bindF (loopF (fun go x=>f147_l4 d place_ go x.1 x.2) fuelN ((0:Int),(0:Int))) fun z6 =>
 sumF z6 (fun z6a =>
 some ((0:Int),false)) (fun z6b =>
 some (z6b,true))) (fun z2b =>
 some ((0:Int),false))
def C147 : Con where
 X := (List Int)×(List Int)
 Y := Int×Bool
 e := 0
 args x := [.dat T4 x.1,.dat T4 x.2]
 hin x := []
 F x := f147 x.1 x.2
 ret y := [.dat T0 y.1,.dat .bool y.2]
 hout y := []
 nout := 0
theorem C147_vc (d : List Int) (place_ : List Int) (y : Int×Bool) (hF : f147 d place_ = some y) : VC Tryz.f147 C147 (d,place_) y := by
 unfold f147 at hF
 refine OL ?_
 obtain ⟨z2,hz2,hF⟩ := bindE hF
 refine OQ ⟨Sum.elim (fun z2a=>[(0,⟨[(0,.dat T4 d),(1,.dat T4 place_)],[],0⟩)]) (fun z2b=>[(1,⟨[(4,D0 0),(5,.dat .bool false)],[],0⟩)]) z2,?_,?_⟩
 ·have hF := hz2
  clear hz2
  unfold f147_j1 at hF
  refine OL ?_
  obtain ⟨r3,hr3,hF⟩ := bindE hF
  refine OL (AI f72_in (callV0 (callI C72 d r3 [] false C72_holds hr3 rfl rfl (AI rfl (AI (fun h=>nomatch h) (R2 (AI TV (AI TV (condN hF (fun hF=>?_) (fun hF=>?_))))))))))
  ·refine gdYF (gdYF (gdYF (gdYF (condF (condI hF (fun hF=>?_) (fun hF=>?_))))))
   ·refine OL ?_
    have hz := someE hF
    subst hz
    refine E4 [] (R3 (AI TV TV))
   have hz := someE hF
   subst hz
   refine E4 [] (R3 (AI TV TV))
  refine gdNF (gdNF (gdNF (gdNF (condT (condT (OL ?_))))))
  have hz := someE hF
  subst hz
  refine E4 [] (R3 (AI TV TV))
 rcases z2 with z2a | z2b
 ·dsimp only [sumF] at hF
  refine AI (OL (OL (OL ?_))) TV
  obtain ⟨z6,hz6,hF⟩ := bindE hF
  refine loopI (Int×Int) (Sum Unit Int) (fun x=>⟨[(0,.dat T4 d),(6,.dat T0 x.1),(19,.dat T4 place_),(20,.dat T0 (List.length place_:Int)),(21,.dat T0 x.2)],[],0⟩) (fun z=>Sum.elim (fun za=>[(1,⟨[(4,D0 0),(5,.dat .bool false)],[],0⟩)]) (fun zb=>[(2,⟨[(6,.dat T0 zb)],[],0⟩)]) z) (loopF (fun go x=>f147_l4 d place_ go x.1 x.2)) fuelN ((0:Int),(0:Int)) z6 (AI hz6 (AI (E4 [] (R6 (AI TV TV))) (AI (fun _ _ h=>loopZ h) (AI (fun m=>curI (fun at_=>fun v21 z hF=>?_)) ?_))))
  ·have hF : f147_l4 d place_ (loopF (fun go x=>f147_l4 d place_ go x.1 x.2) m) at_ v21 = some z := hF
   unfold f147_l4 at hF
   refine OL (OL (condI hF (fun hF=>?_) (fun hF=>?_)))
   ·refine OL (OL (guardI hF (fun hF=>?_)))
    obtain ⟨z7,hz7,hF⟩ := bindE hF
    refine OQ ⟨Sum.elim (fun z7a=>[(0,⟨[(0,.dat T4 d),(6,.dat T0 at_),(7,.dat T0 v21),(8,.dat T0 (rd (0:Int) place_ v21)),(19,.dat T4 place_),(20,.dat T0 (List.length place_:Int)),(21,.dat T0 v21)],[],0⟩)]) (fun z7b=>[(1,⟨[(4,D0 0),(5,.dat .bool false)],[],0⟩)]) z7,?_,?_⟩
    ·have hF := hz7
     clear hz7
     unfold f147_j5 at hF
     refine OL (condN hF (fun hF=>?_) (fun hF=>?_))
     ·refine gdYF (gdYF (gdYF (guardI hF (fun hF=>?_))))
      refine gdYF (gdYF (condF (condI hF (fun hF=>?_) (fun hF=>?_))))
      ·refine OL ?_
       have hz := someE hF
       subst hz
       refine E4 [] (R3 (AI TV TV))
      have hz := someE hF
      subst hz
      refine E4 [] (R8 (AI TV TV))
     refine gdNF (gdNF (gdNF (gdNF (gdNF (condT (condT (OL ?_)))))))
     have hz := someE hF
     subst hz
     refine E4 [] (R3 (AI TV TV))
    rcases z7 with z7a | z7b
    ·dsimp only [sumF] at hF
     refine AI (guardI hF (fun hF=>?_)) TV
     refine EI ((i64.wrap ((i64.wrap (at_ * (rd (0:Int) d v21))) + (rd (0:Int) place_ v21))),(i64.wrap (v21 + (1:Int)))) (AI hF (E4 [] (R6 (AI TV TV))))
    dsimp only [sumF] at hF
    refine AI ?_ TV
    have hz := someE hF
    subst hz
    refine E4 [] (R3 (AI TV TV))
   have hz := someE hF
   subst hz
   refine E4 [] (R2 (AI TV TV))
  rcases z6 with z6a | z6b
  ·dsimp only [sumF] at hF
   refine AI ?_ TV
   have hy := someE hF
   subst hy
   refine AI rfl (E4 [] (R3 (AI TV TV)))
  dsimp only [sumF] at hF
  refine AI (OL ?_) TV
  have hy := someE hF
  subst hy
  refine AI rfl (E4 [] (R3 (AI TV TV)))
 dsimp only [sumF] at hF
 refine AI ?_ TV
 have hy := someE hF
 subst hy
 refine AI rfl (E4 [] (R3 (AI TV TV)))
theorem C147_holds : C147.Holds Tryz.prog 147 := holds_of_vc tab_ok mixed (fn := Tryz.f147) (by kernel_rfl) rfl C147 (fun x y hF=>C147_vc x.1 x.2 y hF)
theorem f147_in : InP 147 := ⟨Tryz.f147,by kernel_rfl,by kernel_rfl,by kernel_rfl⟩
def f145_j3 (a : (List Int)×(List Int)) (order : List Int) : Option Bool :=
 bindF (f86 (a.1,a.2)) fun r9 =>
 bif (!r9) then
 some true
 else
 bindF (f183 order (List.length a.1:Int)) fun r10 =>
 some (!r10)
def f145_j2 (a : (List Int)×(List Int)) (order : List Int) : Option (Sum Unit Unit) :=
 bindF (f145_j3 a order) fun z8 =>
 bif z8 then
 some (Sum.inr ())
 else
 some (Sum.inl ())
def f145_l4 (a : (List Int)×(List Int)) (order : List Int) (go : (Int×(List Int)) → Option (List Int)) (v36:Int) (l2 : List Int) : Option (List Int) :=
 bif (decide (v36 < (List.length order:Int))) then
 guardF (0 ≤ v36 ∧ v36 < (List.length order:Int)) <|
 guardF (0 ≤ (rd (0:Int) order v36) ∧ (rd (0:Int) order v36) < (List.length a.1:Int)) <|
 guardF (0 ≤ v36 ∧ v36 < (List.length l2:Int)) <|
 go ((i64.wrap (v36 + (1:Int))),(List.set l2 (Int.toNat v36) (rd (0:Int) a.1 (rd (0:Int) order v36))))
 else
 some l2
def f145_l8 (order : List Int) (q21_9 : Bool×(List Int)) (go : (Int×(List Int)) → Option (List Int)) (v72:Int) (l5_2 : List Int) : Option (List Int) :=
 bif (decide (v72 < (List.length order:Int))) then
 guardF (0 ≤ v72 ∧ v72 < (List.length order:Int)) <|
 guardF (0 ≤ v72 ∧ v72 < (List.length q21_9.2:Int)) <|
 guardF (0 ≤ (rd (0:Int) order v72) ∧ (rd (0:Int) order v72) < (List.length l5_2:Int)) <|
 go ((i64.wrap (v72 + (1:Int))),(List.set l5_2 (Int.toNat (rd (0:Int) order v72)) (rd (0:Int) q21_9.2 v72)))
 else
 some l5_2
def f145_l7 (a : (List Int)×(List Int)) (order : List Int) (z11 : List Int) (r12 : Int×(List Int)×(List Int)) (go : (Int×(List Int)) → Option (List Int)) (v58:Int) (l5 : List Int) : Option (List Int) :=
 bif (decide (v58 < (List.length r12.2.2:Int))) then
 bindF (f146 z11 v58) fun q21_9 =>
 guardF (0 ≤ (List.length order:Int) ∧ (List.length order:Int) ≤ (List.length order:Int) ∧ Int.toNat (List.length order:Int) * 8 ≤ 140737488355328) <|
 bindF (loopF (fun go x=>f145_l8 order q21_9 go x.1 x.2) fuelN ((0:Int),(List.replicate (Int.toNat (List.length order:Int)) (0:Int)))) fun z19 =>
 bindF (f147 a.1 z19) fun r20 =>
 guardF (0 ≤ r20.1 ∧ r20.1 < (List.length a.2:Int)) <|
 guardF (0 ≤ v58 ∧ v58 < (List.length l5:Int)) <|
 go ((i64.wrap (v58 + (1:Int))),(List.set l5 (Int.toNat v58) (rd (0:Int) a.2 r20.1)))
 else
 some l5
def f145 (a : (List Int)×(List Int)) (order : List Int) : Option (Int×(List Int)×(List Int)) :=
 bindF (f145_j2 a order) fun z5 =>
 sumF z5 (fun z5a =>
 guardF (0 ≤ (List.length order:Int) ∧ (List.length order:Int) ≤ (List.length order:Int) ∧ Int.toNat (List.length order:Int) * 8 ≤ 140737488355328) <|
 bindF (loopF (fun go x=>f145_l4 a order go x.1 x.2) fuelN ((0:Int),(List.replicate (Int.toNat (List.length order:Int)) (0:Int)))) fun z11 =>
 bindF (f52 z11 (0:Int)) fun r12 =>
 bindF (loopF (fun go x=>f145_l7 a order z11 r12 go x.1 x.2) fuelN ((0:Int),r12.2.2)) fun z18 =>
 some ((0:Int),r12.2.1,z18)) (fun z5b =>
 some ((1:Int),[],[]))
def C145 : Con where
 X := ((List Int)×(List Int))×(List Int)
 Y := Int×(List Int)×(List Int)
 e := 0
 args x := [.dat T7 x.1,.dat T4 x.2]
 hin x := []
 F x := f145 x.1 x.2
 ret y := [.raw true [(.osl 0),(.osl 1)],.dat T0 y.1]
 hout y := [(0,.arr 3 T0 y.2.1),(1,.arr 23 T0 y.2.2)]
 nout := 2
theorem C145_vc (a : (List Int)×(List Int)) (order : List Int) (y : Int×(List Int)×(List Int)) (hF : f145 a order = some y) : VC Tryz.f145 C145 (a,order) y := by
 unfold f145 at hF
 refine OL ?_
 obtain ⟨z5,hz5,hF⟩ := bindE hF
 refine OQ ⟨Sum.elim (fun z5a=>[(0,⟨[(1,.dat T4 order),(2,P0 0 0),(4,P0 1 0)],[(0,.cells [(.d T4 a.1),(.d T4 a.2)]),(1,.cells [N0,N0])],2⟩)]) (fun z5b=>[(1,⟨[(4,P0 0 0),(5,D0 1)],[(0,.cells [N0,N0])],1⟩)]) z5,?_,?_⟩
 ·have hF := hz5
  clear hz5
  unfold f145_j2 at hF
  obtain ⟨z8,hz8,hF⟩ := bindE hF
  refine OQ ⟨[(0,⟨[(1,.dat T4 order),(2,P0 0 0),(4,P0 1 0),(29,.dat .bool z8)],[(0,.cells [(.d T4 a.1),(.d T4 a.2)]),(1,.cells [N0,N0])],2⟩)],?_,?_⟩
  ·have hF := hz8
   clear hz8
   unfold f145_j3 at hF
   obtain ⟨r9,hr9,hF⟩ := bindE hF
   refine OL (AI f86_in (callV0 (callI C86 (a.1,a.2) r9 [] false C86_holds hr9 rfl rfl (R2 (AI (fun h=>nomatch h) (R2 (AI TV (AI TV (condN hF (fun hF=>?_) (fun hF=>?_))))))))))
   ·refine gdYF (gdYF (gdYF (gdYF ?_)))
    obtain ⟨r10,hr10,hF⟩ := bindE hF
    refine OL (AI f183_in (callV0 (callI C183 (order,(List.length a.1:Int)) r10 [] false C183_holds hr10 rfl rfl (R2 (AI (fun h=>nomatch h) (R2 (AI TV (AI TV (gdYF (condF ?_))))))))))
    have hz := someE hF
    subst hz
    refine E4 [(0,some 0),(1,some 1)] (R3 (AI (R2 TV) (R2 TV)))
   refine gdNF (gdNF (gdNF (gdNF (gdNF (condT ?_)))))
   have hz := someE hF
   subst hz
   refine E4 [(0,some 0),(1,some 1)] (R3 (AI (R2 TV) (R2 TV)))
  refine AI (condI hF (fun hF=>?_) (fun hF=>?_)) TV
  ·refine OL (OL ?_)
   have hz := someE hF
   subst hz
   refine E4 [(0,some 1)] (R2 (AI (AI rfl TV) (AI rfl TV)))
  have hz := someE hF
  subst hz
  refine E4 [(0,some 0),(1,some 1)] (R2 (AI (R2 TV) (R2 TV)))
 rcases z5 with z5a | z5b
 ·dsimp only [sumF] at hF
  refine AI (OL (guardI hF (fun hF=>?_))) TV
  refine OL (OL ?_)
  obtain ⟨z11,hz11,hF⟩ := bindE hF
  refine loopI (Int×(List Int)) (List Int) (fun x=>⟨[(1,.dat T4 order),(2,P0 0 0),(4,P0 1 0),(6,O0 2),(34,.dat T4 order),(35,.dat T0 (List.length order:Int)),(36,.dat T0 x.1)],[(0,.cells [(.d T4 a.1),(.d T4 a.2)]),(1,.cells [N0,N0]),(2,.arr 3 T0 x.2)],3⟩) (fun z=>[(2,⟨[(1,.dat T4 order),(2,P0 0 0),(4,P0 1 0),(6,O0 2)],[(0,.cells [(.d T4 a.1),(.d T4 a.2)]),(1,.cells [N0,N0]),(2,.arr 3 T0 z)],3⟩)]) (loopF (fun go x=>f145_l4 a order go x.1 x.2)) fuelN ((0:Int),(List.replicate (Int.toNat (List.length order:Int)) (0:Int))) z11 (AI hz11 (AI (E4 [(0,some 0),(1,some 1),(2,some 2)] (R5 (AI (R3 TV) (R3 TV)))) (AI (fun _ _ h=>loopZ h) (AI (fun m=>curI (fun v36=>fun l2 z hF=>?_)) ?_))))
  ·have hF : f145_l4 a order (loopF (fun go x=>f145_l4 a order go x.1 x.2) m) v36 l2 = some z := hF
   unfold f145_l4 at hF
   refine OL (OL (condI hF (fun hF=>?_) (fun hF=>?_)))
   ·refine OL (OL (guardI hF (fun hF=>?_)))
    refine guardI hF (fun hF=>?_)
    refine guardI hF (fun hF=>?_)
    refine OL (EI ((i64.wrap (v36 + (1:Int))),(List.set l2 (Int.toNat v36) (rd (0:Int) a.1 (rd (0:Int) order v36)))) (AI hF (E4 [(0,some 0),(1,some 1),(2,some 2)] (R5 (AI (R3 TV) (R3 TV))))))
   have hz := someE hF
   subst hz
   refine E4 [(0,some 0),(1,some 1),(2,some 2)] (R2 (AI (R3 TV) (R3 TV)))
  refine AI (OL ?_) TV
  obtain ⟨r12,hr12,hF⟩ := bindE hF
  refine OL (AI f52_in (callV0 (callI C52 (z11,(0:Int)) r12 [] true C52_holds hr12 rfl rfl (R2 (AI (fun _=>rfl) (R2 (AI TV (AI TV (OL (OL (OL ?_)))))))))))
  obtain ⟨z18,hz18,hF⟩ := bindE hF
  refine loopI (Int×(List Int)) (List Int) (fun x=>⟨[(1,.dat T4 order),(2,P0 0 0),(4,P0 1 0),(6,O0 2),(9,P0 3 0),(57,.dat T0 (List.length r12.2.2:Int)),(58,.dat T0 x.1)],[(0,.cells [(.d T4 a.1),(.d T4 a.2)]),(1,.cells [N0,N0]),(2,.arr 3 T0 z11),(3,.cells [(.osl 4),(.osl 5)]),(4,.arr 3 T0 r12.2.1),(5,.arr 23 T0 x.2)],6⟩) (fun z=>[(4,⟨[(4,P0 0 0),(9,P0 1 0)],[(0,.cells [N0,N0]),(1,.cells [(.osl 2),(.osl 3)]),(2,.arr 3 T0 r12.2.1),(3,.arr 23 T0 z)],4⟩)]) (loopF (fun go x=>f145_l7 a order z11 r12 go x.1 x.2)) fuelN ((0:Int),r12.2.2) z18 (AI hz18 (AI (E4 [(0,some 0),(1,some 1),(2,some 2),(3,some 5),(4,some 3),(5,some 4)] (R4 (AI (R4 TV) (R6 TV)))) (AI (fun _ _ h=>loopZ h) (AI (fun m=>curI (fun v58=>fun l5 z hF=>?_)) ?_))))
  ·have hF : f145_l7 a order z11 r12 (loopF (fun go x=>f145_l7 a order z11 r12 go x.1 x.2) m) v58 l5 = some z := hF
   unfold f145_l7 at hF
   refine OL (OL (condI hF (fun hF=>?_) (fun hF=>?_)))
   ·refine OL (OL (OL ?_))
    obtain ⟨q21_9,hq21_9,hF⟩ := bindE hF
    refine OL (AI f146_in (callV0 (callI C146 (z11,v58) q21_9 [] true C146_holds hq21_9 rfl rfl (R2 (AI (fun _=>rfl) (R2 (AI TV (AI TV (OL (guardI hF (fun hF=>?_)))))))))))
    refine OL (OL ?_)
    obtain ⟨z19,hz19,hF⟩ := bindE hF
    refine loopI (Int×(List Int)) (List Int) (fun x=>⟨[(1,.dat T4 order),(2,P0 0 0),(4,P0 1 0),(6,O0 2),(9,P0 3 0),(11,.dat T0 v58),(12,O0 4),(14,O0 5),(57,.dat T0 (List.length r12.2.2:Int)),(58,.dat T0 v58),(70,.dat T4 order),(71,.dat T0 (List.length order:Int)),(72,.dat T0 x.1)],[(0,.cells [(.d T4 a.1),(.d T4 a.2)]),(1,.cells [N0,N0]),(2,.arr 3 T0 z11),(3,.cells [(.osl 6),(.osl 7)]),(4,.arr 3 T0 q21_9.2),(5,.arr 3 T0 x.2),(6,.arr 3 T0 r12.2.1),(7,.arr 23 T0 l5)],8⟩) (fun z=>[(6,⟨[(1,.dat T4 order),(2,P0 0 0),(4,P0 1 0),(6,O0 2),(9,P0 3 0),(11,.dat T0 v58),(14,O0 4),(57,.dat T0 (List.length r12.2.2:Int)),(58,.dat T0 v58)],[(0,.cells [(.d T4 a.1),(.d T4 a.2)]),(1,.cells [N0,N0]),(2,.arr 3 T0 z11),(3,.cells [(.osl 5),(.osl 6)]),(4,.arr 3 T0 z),(5,.arr 3 T0 r12.2.1),(6,.arr 23 T0 l5)],7⟩)]) (loopF (fun go x=>f145_l8 order q21_9 go x.1 x.2)) fuelN ((0:Int),(List.replicate (Int.toNat (List.length order:Int)) (0:Int))) z19 (AI hz19 (AI (E4 [(0,some 0),(1,some 1),(2,some 2),(3,some 3),(4,some 6),(5,some 7),(6,some 4),(7,some 5)] (R8 (AI (R6 TV) (R8 TV)))) (AI (fun _ _ h=>loopZ h) (AI (fun m=>curI (fun v72=>fun l5_2 z hF=>?_)) ?_))))
    ·have hF : f145_l8 order q21_9 (loopF (fun go x=>f145_l8 order q21_9 go x.1 x.2) m) v72 l5_2 = some z := hF
     unfold f145_l8 at hF
     refine OL (OL (condI hF (fun hF=>?_) (fun hF=>?_)))
     ·refine OL (OL (guardI hF (fun hF=>?_)))
      refine guardI hF (fun hF=>?_)
      refine guardI hF (fun hF=>?_)
      refine OL (EI ((i64.wrap (v72 + (1:Int))),(List.set l5_2 (Int.toNat (rd (0:Int) order v72)) (rd (0:Int) q21_9.2 v72))) (AI hF (E4 [(0,some 0),(1,some 1),(2,some 2),(3,some 3),(4,some 4),(5,some 5),(6,some 6),(7,some 7)] (R8 (AI (R6 TV) (R8 TV))))))
     have hz := someE hF
     subst hz
     refine E4 [(0,some 0),(1,some 1),(2,some 2),(3,some 3),(4,some 5),(5,some 6),(6,some 7)] (R5 (AI (R5 TV) (R7 TV)))
    refine AI (OL ?_) TV
    obtain ⟨r20,hr20,hF⟩ := bindE hF
    refine OL (AI f147_in (callV0 (callI C147 (a.1,z19) r20 [] true C147_holds hr20 rfl rfl (R2 (AI (fun _=>rfl) (R2 (AI TV (AI TV (EI (.take 0 (.take 1 (.take 2 (.take 3 (.take 4 (.take 5 (.take 6 (.take 7 (.take 8 (.alt 9 .done .done)))))))))) (EI [] (EI [] (AI rfl (guardI hF (fun hF=>?_))))))))))))))
    refine guardI hF (fun hF=>?_)
    refine AI TV (OL (EI ((i64.wrap (v58 + (1:Int))),(List.set l5 (Int.toNat v58) (rd (0:Int) a.2 r20.1))) (AI hF (E4 [(0,some 0),(1,some 1),(2,some 2),(3,some 3),(4,some 5),(5,some 6)] (R4 (AI (R4 TV) (R6 TV)))))))
   have hz := someE hF
   subst hz
   refine E4 [(0,some 1),(1,some 3),(2,some 4),(3,some 5)] (AI rfl (AI (R2 TV) (R4 TV)))
  refine AI (OL (OL ?_)) TV
  have hy := someE hF
  subst hy
  refine AI rfl (E4 [(0,some 2),(1,some 3)] (R2 (AI (AI rfl TV) (R2 TV))))
 dsimp only [sumF] at hF
 refine AI ?_ TV
 have hy := someE hF
 subst hy
 refine AI rfl (E4 [(0,none),(1,none)] (R2 (AI (AI rfl TV) (R2 TV))))
theorem C145_holds : C145.Holds Tryz.prog 145 := holds_of_vc tab_ok mixed (fn := Tryz.f145) (by kernel_rfl) rfl C145 (fun x y hF=>C145_vc x.1 x.2 y hF)
theorem f145_in : InP 145 := ⟨Tryz.f145,by kernel_rfl,by kernel_rfl,by kernel_rfl⟩
def f113 (a : (List Int)×(List Int)) : Option (Int×(List Int)×(List Int)) :=
 bindF (f86 (a.1,a.2)) fun r1 =>
 bif (!r1) then
 some ((1:Int),[],[])
 else
 bindF (f144 (a.1,a.2)) fun r2 =>
 bif (!r2) then
 some ((4:Int),[],[])
 else
 bindF (f145 (a.1,a.2) ([(1:Int),(0:Int)])) fun r3 =>
 some (r3.1,r3.2.1,r3.2.2)
def C113 : Con where
 X := (List Int)×(List Int)
 Y := Int×(List Int)×(List Int)
 e := 0
 args x := [.dat T7 x]
 hin x := []
 F x := f113 x
 ret y := [.raw true [(.osl 0),(.osl 1)],.dat T0 y.1]
 hout y := [(0,.arr 3 T0 y.2.1),(1,.arr 23 T0 y.2.2)]
 nout := 2
theorem C113_vc (a : (List Int)×(List Int)) (y : Int×(List Int)×(List Int)) (hF : f113 a = some y) : VC Tryz.f113 C113 a y := by
 unfold f113 at hF
 refine OL (OL (OL ?_))
 obtain ⟨r1,hr1,hF⟩ := bindE hF
 refine OL (AI f86_in (callV0 (callI C86 (a.1,a.2) r1 [] false C86_holds hr1 rfl rfl (R2 (AI (fun h=>nomatch h) (R2 (AI TV (AI TV (condI hF (fun hF=>?_) (fun hF=>?_))))))))))
 ·refine OL (OL ?_)
  have hy := someE hF
  subst hy
  refine AI rfl (E4 [(0,none),(1,none)] (R2 (AI (AI rfl TV) (R2 TV))))
 refine OL ?_
 obtain ⟨r2,hr2,hF⟩ := bindE hF
 refine OL (AI f144_in (callV0 (callI C144 (a.1,a.2) r2 [] false C144_holds hr2 rfl rfl (R2 (AI (fun h=>nomatch h) (R2 (AI TV (AI TV (condI hF (fun hF=>?_) (fun hF=>?_))))))))))
 ·refine OL (OL ?_)
  have hy := someE hF
  subst hy
  refine AI rfl (E4 [(0,none),(1,none)] (R2 (AI (AI rfl TV) (R2 TV))))
 refine OL (OL ?_)
 obtain ⟨r3,hr3,hF⟩ := bindE hF
 refine OL (AI f145_in (callV0 (callI C145 ((a.1,a.2),[(1:Int),(0:Int)]) r3 [] true C145_holds hr3 rfl rfl (R3 (AI (fun _=>rfl) (R2 (AI TV (AI TV (OL ?_)))))))))
 have hy := someE hF
 subst hy
 refine AI rfl (E4 [(0,some 3),(1,some 4)] (R2 (AI (AI rfl TV) (R2 TV))))
theorem C113_holds : C113.Holds Tryz.prog 113 := holds_of_vc tab_ok mixed (fn := Tryz.f113) (by kernel_rfl) rfl C113 (fun x y hF=>C113_vc x y hF)
theorem f113_in : InP 113 := ⟨Tryz.f113,by kernel_rfl,by kernel_rfl,by kernel_rfl⟩
def f131 (v:Int) : Option Int :=
 bif (decide (v < (0:Int))) then
 some (u64.wrap (0 - (u64.wrap v)))
 else
 some (u64.wrap v)
def C131 : Con where
 X := Int
 Y := Int
 e := 0
 args x := [.dat T0 x]
 hin x := []
 F x := f131 x
 ret y := [.dat T8 y]
 hout y := []
 nout := 0
theorem C131_vc (v:Int) (y:Int) (hF : f131 v = some y) : VC Tryz.f131 C131 v y := by
 unfold f131 at hF
 refine OL (OL (OL (condI hF (fun hF=>?_) (fun hF=>?_))))
 ·refine OL ?_
  have hy := someE hF
  subst hy
  refine AI rfl (E4 [] (R2 (AI TV TV)))
 refine OL ?_
 have hy := someE hF
 subst hy
 refine AI rfl (E4 [] (R2 (AI TV TV)))
theorem C131_holds : C131.Holds Tryz.prog 131 := holds_of_vc tab_ok mixed (fn := Tryz.f131) (by kernel_rfl) rfl C131 (fun x y hF=>C131_vc x y hF)
theorem f131_in : InP 131 := ⟨Tryz.f131,by kernel_rfl,by kernel_rfl,by kernel_rfl⟩
def f172 (a : Int×Int) (b : Int×Int) : Option (Int×Int) :=
 bindF (sub64 a.2 b.2 (0:Int)) fun r1 =>
 bindF (sub64 (u64.wrap a.1) (u64.wrap b.1) r1.2) fun r2 =>
 some ((i64.wrap r2.1),r1.1)
def C172 : Con where
 X := (Int×Int)×(Int×Int)
 Y := Int×Int
 e := 0
 args x := [.dat T9 x.1,.dat T9 x.2]
 hin x := []
 F x := f172 x.1 x.2
 ret y := [.raw true [(.d T0 y.1),(.d T8 y.2)]]
 hout y := []
 nout := 0
theorem C172_vc (a : Int×Int) (b : Int×Int) (y : Int×Int) (hF : f172 a b = some y) : VC Tryz.f172 C172 (a,b) y := by
 unfold f172 at hF
 refine OL (OL ?_)
 obtain ⟨r1,hr1,hF⟩ := bindE hF
 refine OQ ⟨ext3 sub64,[r1.1,r1.2],sub64_ok,AI (ext3I hr1) ?_⟩
 refine OL ?_
 obtain ⟨r2,hr2,hF⟩ := bindE hF
 refine OQ ⟨ext3 sub64,[r2.1,r2.2],sub64_ok,AI (ext3I hr2) ?_⟩
 refine OL (OL ?_)
 have hy := someE hF
 subst hy
 refine AI rfl (E4 [] (AI rfl (AI (AI rfl TV) TV)))
theorem C172_holds : C172.Holds Tryz.prog 172 := holds_of_vc tab_ok mixed (fn := Tryz.f172) (by kernel_rfl) rfl C172 (fun x y hF=>C172_vc x.1 x.2 y hF)
theorem f172_in : InP 172 := ⟨Tryz.f172,by kernel_rfl,by kernel_rfl,by kernel_rfl⟩
def f134 (a : Int×Int) : Option (Int×Int) :=
 bindF (f172 ((0:Int),(0:Int)) (a.1,a.2)) fun r1 =>
 some (r1.1,r1.2)
def C134 : Con where
 X := Int×Int
 Y := Int×Int
 e := 0
 args x := [.dat T9 x]
 hin x := []
 F x := f134 x
 ret y := [.raw true [(.d T0 y.1),(.d T8 y.2)]]
 hout y := []
 nout := 0
theorem C134_vc (a : Int×Int) (y : Int×Int) (hF : f134 a = some y) : VC Tryz.f134 C134 a y := by
 unfold f134 at hF
 refine OL (OL ?_)
 obtain ⟨r1,hr1,hF⟩ := bindE hF
 refine OL (AI f172_in (callV0 (callI C172 (((0:Int),(0:Int)),(a.1,a.2)) r1 [] false C172_holds hr1 rfl rfl (R4 (AI (fun h=>nomatch h) (R2 (AI TV (AI TV (OL ?_)))))))))
 have hy := someE hF
 subst hy
 refine AI rfl (E4 [] (AI rfl (AI (AI rfl TV) TV)))
theorem C134_holds : C134.Holds Tryz.prog 134 := holds_of_vc tab_ok mixed (fn := Tryz.f134) (by kernel_rfl) rfl C134 (fun x y hF=>C134_vc x y hF)
theorem f134_in : InP 134 := ⟨Tryz.f134,by kernel_rfl,by kernel_rfl,by kernel_rfl⟩
def f186 (a:Int) (b:Int) : Option (Int×Int) :=
 bindF (f131 a) fun r1 =>
 bindF (f131 b) fun r2 =>
 bindF (f95 r1 r2) fun r3 =>
 bif (!((decide (a < (0:Int))) == (decide (b < (0:Int))))) then
 bindF (f134 ((i64.wrap r3.1),r3.2)) fun r4 =>
 some (r4.1,r4.2)
 else
 some ((i64.wrap r3.1),r3.2)
def C186 : Con where
 X := Int×Int
 Y := Int×Int
 e := 0
 args x := [.dat T0 x.1,.dat T0 x.2]
 hin x := []
 F x := f186 x.1 x.2
 ret y := [.raw true [(.d T0 y.1),(.d T8 y.2)]]
 hout y := []
 nout := 0
theorem C186_vc (a:Int) (b:Int) (y : Int×Int) (hF : f186 a b = some y) : VC Tryz.f186 C186 (a,b) y := by
 unfold f186 at hF
 refine OL (OL ?_)
 obtain ⟨r1,hr1,hF⟩ := bindE hF
 refine OL (AI f131_in (callV0 (callI C131 a r1 [] false C131_holds hr1 rfl rfl (AI rfl (AI (fun h=>nomatch h) (R2 (AI TV (AI TV ?_))))))))
 obtain ⟨r2,hr2,hF⟩ := bindE hF
 refine OL (AI f131_in (callV0 (callI C131 b r2 [] false C131_holds hr2 rfl rfl (AI rfl (AI (fun h=>nomatch h) (R2 (AI TV (AI TV ?_))))))))
 obtain ⟨r3,hr3,hF⟩ := bindE hF
 refine OL (AI f95_in (callV0 (callI C95 (r1,r2) r3 [] false C95_holds hr3 rfl rfl (R2 (AI (fun h=>nomatch h) (R2 (AI TV (AI TV (OL (OL (OL (OL (condI hF (fun hF=>?_) (fun hF=>?_))))))))))))))
 ·refine OL ?_
  obtain ⟨r4,hr4,hF⟩ := bindE hF
  refine OL (AI f134_in (callV0 (callI C134 ((i64.wrap r3.1),r3.2) r4 [] false C134_holds hr4 rfl rfl (R2 (AI (fun h=>nomatch h) (R2 (AI TV (AI TV (OL ?_)))))))))
  have hy := someE hF
  subst hy
  refine AI rfl (E4 [] (AI rfl (AI (AI rfl TV) TV)))
 refine OL (OL ?_)
 have hy := someE hF
 subst hy
 refine AI rfl (E4 [] (AI rfl (AI (AI rfl TV) TV)))
theorem C186_holds : C186.Holds Tryz.prog 186 := holds_of_vc tab_ok mixed (fn := Tryz.f186) (by kernel_rfl) rfl C186 (fun x y hF=>C186_vc x.1 x.2 y hF)
theorem f186_in : InP 186 := ⟨Tryz.f186,by kernel_rfl,by kernel_rfl,by kernel_rfl⟩
def f154 (s_top:Int) (s_low_Hi:Int) (s_low_Lo:Int) (a:Int) (b:Int) : Option (Int×Int×Int) :=
 bindF (f186 a b) fun q4_13 =>
 bindF (add64 s_low_Lo q4_13.2 (0:Int)) fun q1_7 =>
 bindF (add64 (u64.wrap s_low_Hi) (u64.wrap q4_13.1) q1_7.2) fun q2_10 =>
 some ((i64.wrap (s_top + (i64.wrap ((Int.fdiv q4_13.1 (2 ^ min (Int.toNat (63:Int)) (IntKind.bits IntKind.i64))) + (i64.wrap q2_10.2))))),(i64.wrap q2_10.1),q1_7.1)
def C154 : Con where
 X := Int×Int×Int×Int×Int
 Y := Int×Int×Int
 e := 1
 args x := [P0 0 0,.dat T0 x.2.2.2.1,.dat T0 x.2.2.2.2]
 hin x := [(0,.cells [(.d T0 x.1),(.d T0 x.2.1),(.d T8 x.2.2.1)])]
 F x := f154 x.1 x.2.1 x.2.2.1 x.2.2.2.1 x.2.2.2.2
 ret y := []
 hout y := [(0,.cells [(.d T0 y.1),(.d T0 y.2.1),(.d T8 y.2.2)])]
 nout := 1
theorem C154_vc (s_top:Int) (s_low_Hi:Int) (s_low_Lo:Int) (a:Int) (b:Int) (y : Int×Int×Int) (hF : f154 s_top s_low_Hi s_low_Lo a b = some y) : vc Tryz.prog tab Tryz.f154.ntmps 1 (match Tryz.f154.body with | some c=>c | none=>.skip) (retK tab C154 Tryz.f154.results.toList y) (C154.shIn (s_top,s_low_Hi,s_low_Lo,a,b)).st := by
 unfold f154 at hF
 refine OL ?_
 obtain ⟨q4_13,hq4_13,hF⟩ := bindE hF
 refine OL (AI f186_in (callV0 (callI C186 (a,b) q4_13 [] false C186_holds hq4_13 rfl rfl (R2 (AI (fun h=>nomatch h) (R2 (AI TV (AI TV (OL (OL (EI (.take 0 (.take 1 (.take 2 (.take 3 (.take 4 (.take 5 (.take 6 (.alt 7 (.take 8 (.take 9 (.take 10 (.take 11 (.take 12 .done))))) .done)))))))) (EI [] (EI [] (AI rfl (AI TV ?_)))))))))))))))
 obtain ⟨q1_7,hq1_7,hF⟩ := bindE hF
 refine OQ ⟨ext3 add64,[q1_7.1,q1_7.2],add64_ok,AI (ext3I hq1_7) ?_⟩
 refine OL (EI (.take 0 (.take 1 (.take 2 (.take 3 (.take 4 (.take 5 (.take 6 (.take 7 (.take 8 (.take 9 (.alt 10 (.take 11 (.take 12 (.take 13 (.take 14 (.take 15 .done))))) .done))))))))))) (EI [] (EI [] (AI rfl (AI TV ?_)))))
 obtain ⟨q2_10,hq2_10,hF⟩ := bindE hF
 refine OQ ⟨ext3 add64,[q2_10.1,q2_10.2],add64_ok,AI (ext3I hq2_10) ?_⟩
 refine OL (OL (EI (.take 0 (.take 1 (.take 2 (.take 3 (.take 4 (.take 5 (.take 6 (.take 7 (.take 8 (.take 9 (.take 10 (.take 11 (.take 12 (.alt 13 .done .done)))))))))))))) (EI [(13,[0])] (EI [] (AI rfl (AI (by decide) (AI TV (OL ?_))))))))
 have hy := someE hF
 subst hy
 refine AI rfl (E4 [(0,some 0)] (AI rfl (AI TV (AI rfl TV))))
theorem C154_holds : C154.Holds Tryz.prog 154 := holds_of_vc tab_ok mixed (fn := Tryz.f154) (by kernel_rfl) rfl C154 (fun x y hF=>C154_vc x.1 x.2.1 x.2.2.1 x.2.2.2.1 x.2.2.2.2 y hF)
theorem f154_in : InP 154 := ⟨Tryz.f154,by kernel_rfl,by kernel_rfl,by kernel_rfl⟩
def f200 (a : Int×Int) (n:Int) : Option (Int×Int×Int×Int) :=
 bif (decide (n ≥ (64:Int))) then
 guardF (0 ≤ (i64.wrap (n - (64:Int)))) <|
 guardF (0 ≤ (i64.wrap ((64:Int) - (i64.wrap (n - (64:Int)))))) <|
 guardF (0 ≤ (i64.wrap (n - (64:Int)))) <|
 guardF (0 ≤ (i64.wrap ((64:Int) - (i64.wrap (n - (64:Int)))))) <|
 some ((Int.fdiv a.1 (2 ^ min (Int.toNat (63:Int)) (IntKind.bits IntKind.i64))),(u64.wrap (Int.fdiv a.1 (2 ^ min (Int.toNat (i64.wrap (n - (64:Int)))) (IntKind.bits IntKind.i64)))),(bitsOf IntKind.u64 (fun p q=>p ||| q) (u64.wrap ((u64.wrap a.1) * 2 ^ min (Int.toNat (i64.wrap ((64:Int) - (i64.wrap (n - (64:Int)))))) (IntKind.bits IntKind.u64))) (Int.fdiv a.2 (2 ^ min (Int.toNat (i64.wrap (n - (64:Int)))) (IntKind.bits IntKind.u64)))),(u64.wrap (a.2 * 2 ^ min (Int.toNat (i64.wrap ((64:Int) - (i64.wrap (n - (64:Int)))))) (IntKind.bits IntKind.u64))))
 else
 guardF (0 ≤ n) <|
 guardF (0 ≤ (i64.wrap ((64:Int) - n))) <|
 guardF (0 ≤ n) <|
 guardF (0 ≤ (i64.wrap ((64:Int) - n))) <|
 some ((Int.fdiv a.1 (2 ^ min (Int.toNat n) (IntKind.bits IntKind.i64))),(bitsOf IntKind.u64 (fun p q=>p ||| q) (u64.wrap ((u64.wrap a.1) * 2 ^ min (Int.toNat (i64.wrap ((64:Int) - n))) (IntKind.bits IntKind.u64))) (Int.fdiv a.2 (2 ^ min (Int.toNat n) (IntKind.bits IntKind.u64)))),(u64.wrap (a.2 * 2 ^ min (Int.toNat (i64.wrap ((64:Int) - n))) (IntKind.bits IntKind.u64))),(0:Int))
def C200 : Con where
 X := (Int×Int)×Int
 Y := Int×Int×Int×Int
 e := 0
 args x := [.dat T9 x.1,.dat T0 x.2]
 hin x := []
 F x := f200 x.1 x.2
 ret y := [.raw true [(.d T0 y.1),(.d T8 y.2.1)],.dat T8 y.2.2.1,.dat T8 y.2.2.2]
 hout y := []
 nout := 0
theorem C200_vc (a : Int×Int) (n:Int) (y : Int×Int×Int×Int) (hF : f200 a n = some y) : VC Tryz.f200 C200 (a,n) y := by
 unfold f200 at hF
 refine OL (OL (EI (.take 0 (.take 1 (.take 2 (.take 3 (.take 4 (.take 5 (.take 6 .done))))))) (EI [] (EI [] (AI rfl (OL (OL (condI hF (fun hF=>?_) (fun hF=>?_)))))))))
 ·refine OL (OL (EI (.take 0 (.take 1 (.take 2 (.take 3 (.take 4 (.take 5 (.take 6 (.take 7 (.take 8 (.alt 9 (.alt 10 .done .done) .done)))))))))) (EI [] (EI [] (AI rfl (AI (by decide) (guardI hF (fun hF=>?_))))))))
  refine AI TV (AI TV (OL (OL (EI (.take 0 (.take 1 (.take 2 (.take 3 (.take 4 (.take 5 (.take 6 (.take 7 (.take 8 (.take 9 (.take 10 (.take 11 (.take 12 (.alt 13 (.take 14 (.take 15 .done)) .done)))))))))))))) (EI [] (EI [] (AI rfl (guardI hF (fun hF=>?_)))))))))
  refine guardI hF (fun hF=>?_)
  refine guardI hF (fun hF=>?_)
  refine AI TV (OL ?_)
  have hy := someE hF
  subst hy
  refine AI rfl (E4 [] (R3 (AI (AI rfl TV) TV)))
 refine OL (EI (.take 0 (.take 1 (.take 2 (.take 3 (.take 4 (.take 5 (.take 6 (.take 7 (.take 8 (.take 9 (.take 10 (.take 11 (.take 12 (.take 13 (.take 14 (.take 15 (.take 16 (.alt 17 (.take 18 (.take 19 .done)) .done)))))))))))))))))) (EI [] (EI [] (AI rfl (guardI hF (fun hF=>?_))))))
 refine guardI hF (fun hF=>?_)
 refine guardI hF (fun hF=>?_)
 refine guardI hF (fun hF=>?_)
 refine AI TV (OL ?_)
 have hy := someE hF
 subst hy
 refine AI rfl (E4 [] (R3 (AI (AI rfl TV) TV)))
theorem C200_holds : C200.Holds Tryz.prog 200 := holds_of_vc tab_ok mixed (fn := Tryz.f200) (by kernel_rfl) rfl C200 (fun x y hF=>C200_vc x.1 x.2 y hF)
theorem f200_in : InP 200 := ⟨Tryz.f200,by kernel_rfl,by kernel_rfl,by kernel_rfl⟩
def f41 (n:Int) : Option (Int×Int) :=
 some ((Int.fdiv n (2 ^ min (Int.toNat (63:Int)) (IntKind.bits IntKind.i64))),(u64.wrap n))
def C41 : Con where
 X := Int
 Y := Int×Int
 e := 0
 args x := [.dat T0 x]
 hin x := []
 F x := f41 x
 ret y := [.raw true [(.d T0 y.1),(.d T8 y.2)]]
 hout y := []
 nout := 0
theorem C41_vc (n:Int) (y : Int×Int) (hF : f41 n = some y) : VC Tryz.f41 C41 n y := by
 unfold f41 at hF
 refine OL (OL (AI (by decide) (OL ?_)))
 have hy := someE hF
 subst hy
 refine AI rfl (E4 [] (AI rfl (AI (AI rfl TV) TV)))
theorem C41_holds : C41.Holds Tryz.prog 41 := holds_of_vc tab_ok mixed (fn := Tryz.f41) (by kernel_rfl) rfl C41 (fun x y hF=>C41_vc x y hF)
theorem f41_in : InP 41 := ⟨Tryz.f41,by kernel_rfl,by kernel_rfl,by kernel_rfl⟩
def f26 (a : Int×Int) (b : Int×Int) : Option (Int×Int) :=
 bindF (add64 a.2 b.2 (0:Int)) fun r1 =>
 bindF (add64 (u64.wrap a.1) (u64.wrap b.1) r1.2) fun r2 =>
 some ((i64.wrap r2.1),r1.1)
def C26 : Con where
 X := (Int×Int)×(Int×Int)
 Y := Int×Int
 e := 0
 args x := [.dat T9 x.1,.dat T9 x.2]
 hin x := []
 F x := f26 x.1 x.2
 ret y := [.raw true [(.d T0 y.1),(.d T8 y.2)]]
 hout y := []
 nout := 0
theorem C26_vc (a : Int×Int) (b : Int×Int) (y : Int×Int) (hF : f26 a b = some y) : VC Tryz.f26 C26 (a,b) y := by
 unfold f26 at hF
 refine OL (OL ?_)
 obtain ⟨r1,hr1,hF⟩ := bindE hF
 refine OQ ⟨ext3 add64,[r1.1,r1.2],add64_ok,AI (ext3I hr1) ?_⟩
 refine OL ?_
 obtain ⟨r2,hr2,hF⟩ := bindE hF
 refine OQ ⟨ext3 add64,[r2.1,r2.2],add64_ok,AI (ext3I hr2) ?_⟩
 refine OL (OL ?_)
 have hy := someE hF
 subst hy
 refine AI rfl (E4 [] (AI rfl (AI (AI rfl TV) TV)))
theorem C26_holds : C26.Holds Tryz.prog 26 := holds_of_vc tab_ok mixed (fn := Tryz.f26) (by kernel_rfl) rfl C26 (fun x y hF=>C26_vc x.1 x.2 y hF)
theorem f26_in : InP 26 := ⟨Tryz.f26,by kernel_rfl,by kernel_rfl,by kernel_rfl⟩
def f187_j1 (n:Int) : Option (Sum Unit Unit) :=
 bif (decide (n < (1:Int))) then
 some (Sum.inr ())
 else
 bif (decide (n > (126:Int))) then
 some (Sum.inr ())
 else
 some (Sum.inl ())
def f187_j2 (q5_3 : Int×Int×Int×Int) : Option Bool :=
 bif (decide (q5_3.2.2.1 > (9223372036854775808:Int))) then
 some true
 else
 bif (q5_3.2.2.1 == (9223372036854775808:Int)) then
 bif (decide (q5_3.2.2.2 > (0:Int))) then
 some true
 else
 some ((bitsOf IntKind.u64 (fun p q=>p &&& q) q5_3.2.1 (1:Int)) == (1:Int))
 else
 some false
def f187 (a : Int×Int) (n:Int) : Option (Int×Int) :=
 bindF (f187_j1 n) fun z1 =>
 sumF z1 (fun z1a =>
 bindF (f200 (a.1,a.2) n) fun q5_3 =>
 bindF (f187_j2 q5_3) fun z2 =>
 bif z2 then
 bindF (f41 (1:Int)) fun q5_1 =>
 bindF (f26 (q5_3.1,q5_3.2.1) (q5_1.1,q5_1.2)) fun q5_2 =>
 some (q5_2.1,q5_2.2)
 else
 some (q5_3.1,q5_3.2.1)) (fun z1b =>
 some (a.1,a.2))
def C187 : Con where
 X := (Int×Int)×Int
 Y := Int×Int
 e := 0
 args x := [.dat T9 x.1,.dat T0 x.2]
 hin x := []
 F x := f187 x.1 x.2
 ret y := [.raw true [(.d T0 y.1),(.d T8 y.2)]]
 hout y := []
 nout := 0
theorem C187_vc (a : Int×Int) (n:Int) (y : Int×Int) (hF : f187 a n = some y) : VC Tryz.f187 C187 (a,n) y := by
 unfold f187 at hF
 refine OL ?_
 obtain ⟨z1,hz1,hF⟩ := bindE hF
 refine OQ ⟨Sum.elim (fun z1a=>[(0,⟨[(1,.dat T0 n),(2,P0 0 0),(4,P0 1 0)],[(0,.cells [(.d T0 a.1),(.d T8 a.2)]),(1,.cells [(.d T0 (0:Int)),(.d T8 (0:Int))])],2⟩)]) (fun z1b=>[(1,⟨[(4,P0 0 0)],[(0,.cells [(.d T0 a.1),(.d T8 a.2)])],1⟩)]) z1,?_,?_⟩
 ·have hF := hz1
  clear hz1
  unfold f187_j1 at hF
  refine OL (condN hF (fun hF=>?_) (fun hF=>?_))
  ·refine gdYF (condF (condI hF (fun hF=>?_) (fun hF=>?_)))
   ·refine OL (OL ?_)
    have hz := someE hF
    subst hz
    refine E4 [(0,some 1)] (AI rfl (AI (AI rfl TV) (AI rfl TV)))
   have hz := someE hF
   subst hz
   refine E4 [(0,some 0),(1,some 1)] (R2 (AI (R2 TV) (R2 TV)))
  refine gdNF (condT (condT (OL (OL ?_))))
  have hz := someE hF
  subst hz
  refine E4 [(0,some 1)] (AI rfl (AI (AI rfl TV) (AI rfl TV)))
 rcases z1 with z1a | z1b
 ·dsimp only [sumF] at hF
  refine AI (OL ?_) TV
  obtain ⟨q5_3,hq5_3,hF⟩ := bindE hF
  refine OL (AI f200_in (callV0 (callI C200 ((a.1,a.2),n) q5_3 [] false C200_holds hq5_3 rfl rfl (R3 (AI (fun h=>nomatch h) (R2 (AI TV (AI TV (OL (OL ?_))))))))))
  obtain ⟨z2,hz2,hF⟩ := bindE hF
  refine OQ ⟨[(0,⟨[(4,P0 0 0),(5,P0 1 0),(37,.dat .bool z2)],[(0,.cells [(.d T0 (0:Int)),(.d T8 (0:Int))]),(1,.cells [(.d T0 q5_3.1),(.d T8 q5_3.2.1)])],2⟩)],?_,?_⟩
  ·have hF := hz2
   clear hz2
   unfold f187_j2 at hF
   refine condN hF (fun hF=>?_) (fun hF=>?_)
   ·refine gdYF (gdYF (condI hF (fun hF=>?_) (fun hF=>?_)))
    ·refine gdYT (gdYT (condN hF (fun hF=>?_) (fun hF=>?_)))
     ·refine gdYF (gdYF (gdYF (gdYT (condF (gdYF (condT (condF ?_)))))))
      have hz := someE hF
      subst hz
      refine E4 [(0,some 1),(1,some 2)] (R2 (AI (R2 TV) (R2 TV)))
     refine gdNF (gdNF (gdNF (gdYT (condT (gdYF (condT (condF ?_)))))))
     have hz := someE hF
     subst hz
     refine E4 [(0,some 1),(1,some 2)] (R2 (AI (R2 TV) (R2 TV)))
    refine gdNT (gdNT (gdNT (gdYF (condF (condF ?_)))))
    have hz := someE hF
    subst hz
    refine E4 [(0,some 1),(1,some 2)] (R2 (AI (R2 TV) (R2 TV)))
   refine gdNF (gdNF (gdNF (condT ?_)))
   have hz := someE hF
   subst hz
   refine E4 [(0,some 1),(1,some 2)] (R2 (AI (R2 TV) (R2 TV)))
  refine AI (condI hF (fun hF=>?_) (fun hF=>?_)) TV
  ·refine OL (EI (.take 0 (.alt 1 (.alt 2 (.alt 3 .done .done) .done) .done)) (EI [] (EI [] (AI rfl (AI TV ?_)))))
   obtain ⟨q5_1,hq5_1,hF⟩ := bindE hF
   refine OL (AI f41_in (callV0 (callI C41 (1:Int) q5_1 [] false C41_holds hq5_1 rfl rfl (AI rfl (AI (fun h=>nomatch h) (R2 (AI TV (AI TV (AI TV ?_)))))))))
   obtain ⟨q5_2,hq5_2,hF⟩ := bindE hF
   refine OL (AI f26_in (callV0 (callI C26 ((q5_3.1,q5_3.2.1),(q5_1.1,q5_1.2)) q5_2 [] false C26_holds hq5_2 rfl rfl (R4 (AI (fun h=>nomatch h) (R2 (AI TV (AI TV (AI TV (OL ?_))))))))))
   have hy := someE hF
   subst hy
   refine AI rfl (E4 [] (AI rfl (AI (AI rfl TV) TV)))
  refine OL (OL ?_)
  have hy := someE hF
  subst hy
  refine AI rfl (E4 [] (AI rfl (AI (AI rfl TV) TV)))
 dsimp only [sumF] at hF
 refine AI ?_ TV
 have hy := someE hF
 subst hy
 refine AI rfl (E4 [] (AI rfl (AI (AI rfl TV) TV)))
theorem C187_holds : C187.Holds Tryz.prog 187 := holds_of_vc tab_ok mixed (fn := Tryz.f187) (by kernel_rfl) rfl C187 (fun x y hF=>C187_vc x.1 x.2 y hF)
theorem f187_in : InP 187 := ⟨Tryz.f187,by kernel_rfl,by kernel_rfl,by kernel_rfl⟩
def f133_j3 (a : Int×Int) : Option Bool :=
 bif (decide (a.1 > (0:Int))) then
 some true
 else
 bif (a.1 == (0:Int)) then
 some (decide (a.2 ≥ (9223372036854775808:Int)))
 else
 some false
def f133_j2 (a : Int×Int) : Option (Sum Unit Int) :=
 bindF (f133_j3 a) fun z3 =>
 bif z3 then
 some (Sum.inr (9223372036854775807:Int))
 else
 bif (decide (a.1 < (-1:Int))) then
 some (Sum.inr (-9223372036854775808:Int))
 else
 bif (a.1 == (-1:Int)) then
 bif (decide (a.2 < (9223372036854775808:Int))) then
 some (Sum.inr (-9223372036854775808:Int))
 else
 some (Sum.inl ())
 else
 some (Sum.inl ())
def f133 (a : Int×Int) : Option Int :=
 bindF (f133_j2 a) fun z2 =>
 sumF z2 (fun z2a =>
 some (i64.wrap a.2)) (fun z2b =>
 some z2b)
def C133 : Con where
 X := Int×Int
 Y := Int
 e := 0
 args x := [.dat T9 x]
 hin x := []
 F x := f133 x
 ret y := [.dat T0 y]
 hout y := []
 nout := 0
theorem C133_vc (a : Int×Int) (y:Int) (hF : f133 a = some y) : VC Tryz.f133 C133 a y := by
 unfold f133 at hF
 refine OL ?_
 obtain ⟨z2,hz2,hF⟩ := bindE hF
 refine OQ ⟨Sum.elim (fun z2a=>[(0,⟨[(1,P0 0 0)],[(0,.cells [(.d T0 a.1),(.d T8 a.2)])],1⟩)]) (fun z2b=>[(1,⟨[(2,.dat T0 z2b)],[],0⟩)]) z2,?_,?_⟩
 ·have hF := hz2
  clear hz2
  unfold f133_j2 at hF
  obtain ⟨z3,hz3,hF⟩ := bindE hF
  refine OQ ⟨[(0,⟨[(1,P0 0 0),(3,.dat .bool z3)],[(0,.cells [(.d T0 a.1),(.d T8 a.2)])],1⟩)],?_,?_⟩
  ·have hF := hz3
   clear hz3
   unfold f133_j3 at hF
   refine condN hF (fun hF=>?_) (fun hF=>?_)
   ·refine gdYF (gdYF (gdYF (condI hF (fun hF=>?_) (fun hF=>?_))))
    ·refine gdYT (gdYT (gdYF (condT (condF ?_))))
     have hz := someE hF
     subst hz
     refine E4 [(0,some 0)] (R2 (AI (AI rfl TV) (AI rfl TV)))
    refine gdNT (gdNT (gdYF (condF (condF ?_))))
    have hz := someE hF
    subst hz
    refine E4 [(0,some 0)] (R2 (AI (AI rfl TV) (AI rfl TV)))
   refine gdNF (gdNF (gdNF (gdNF (condT ?_))))
   have hz := someE hF
   subst hz
   refine E4 [(0,some 0)] (R2 (AI (AI rfl TV) (AI rfl TV)))
  refine AI (condI hF (fun hF=>?_) (fun hF=>?_)) TV
  ·refine OL ?_
   have hz := someE hF
   subst hz
   refine E4 [] (R2 (AI TV TV))
  refine OL (condN hF (fun hF=>?_) (fun hF=>?_))
  ·refine gdYF (gdYF (gdYF (condI hF (fun hF=>?_) (fun hF=>?_))))
   ·refine gdYT (gdYT (gdYF (condT (condF (condI hF (fun hF=>?_) (fun hF=>?_))))))
    ·refine OL ?_
     have hz := someE hF
     subst hz
     refine E4 [] (R2 (AI TV TV))
    have hz := someE hF
    subst hz
    refine E4 [(0,some 0)] (AI rfl (AI (AI rfl TV) (AI rfl TV)))
   refine gdNT (gdNT (gdYF (condF (condF (condF ?_)))))
   have hz := someE hF
   subst hz
   refine E4 [(0,some 0)] (AI rfl (AI (AI rfl TV) (AI rfl TV)))
  refine gdNF (gdNF (gdNF (gdNF (condT (condT (OL ?_))))))
  have hz := someE hF
  subst hz
  refine E4 [] (R2 (AI TV TV))
 rcases z2 with z2a | z2b
 ·dsimp only [sumF] at hF
  refine AI (OL ?_) TV
  have hy := someE hF
  subst hy
  refine AI rfl (E4 [] (R2 (AI TV TV)))
 dsimp only [sumF] at hF
 refine AI ?_ TV
 have hy := someE hF
 subst hy
 refine AI rfl (E4 [] (R2 (AI TV TV)))
theorem C133_holds : C133.Holds Tryz.prog 133 := holds_of_vc tab_ok mixed (fn := Tryz.f133) (by kernel_rfl) rfl C133 (fun x y hF=>C133_vc x y hF)
theorem f133_in : InP 133 := ⟨Tryz.f133,by kernel_rfl,by kernel_rfl,by kernel_rfl⟩
def f155 (s_top:Int) (s_low_Hi:Int) (s_low_Lo:Int) (n:Int) : Option (Int×Int×Int×Int) :=
 bif (s_top == (Int.fdiv s_low_Hi (2 ^ min (Int.toNat (63:Int)) (IntKind.bits IntKind.i64)))) then
 bindF (f187 (s_low_Hi,s_low_Lo) n) fun q1_11 =>
 bindF (f133 (q1_11.1,q1_11.2)) fun r1 =>
 some (r1,s_top,s_low_Hi,s_low_Lo)
 else
 bif (decide (s_top < (0:Int))) then
 some ((-9223372036854775808:Int),s_top,s_low_Hi,s_low_Lo)
 else
 some ((9223372036854775807:Int),s_top,s_low_Hi,s_low_Lo)
def C155 : Con where
 X := Int×Int×Int×Int
 Y := Int×Int×Int×Int
 e := 1
 args x := [P0 0 0,.dat T0 x.2.2.2]
 hin x := [(0,.cells [(.d T0 x.1),(.d T0 x.2.1),(.d T8 x.2.2.1)])]
 F x := f155 x.1 x.2.1 x.2.2.1 x.2.2.2
 ret y := [.dat T0 y.1]
 hout y := [(0,.cells [(.d T0 y.2.1),(.d T0 y.2.2.1),(.d T8 y.2.2.2)])]
 nout := 1
theorem C155_vc (s_top:Int) (s_low_Hi:Int) (s_low_Lo:Int) (n:Int) (y : Int×Int×Int×Int) (hF : f155 s_top s_low_Hi s_low_Lo n = some y) : vc Tryz.prog tab Tryz.f155.ntmps 1 (match Tryz.f155.body with | some c=>c | none=>.skip) (retK tab C155 Tryz.f155.results.toList y) (C155.shIn (s_top,s_low_Hi,s_low_Lo,n)).st := by
 unfold f155 at hF
 refine OL (OL (OL (EI (.take 0 (.take 1 (.take 2 (.take 3 (.take 4 (.take 5 (.take 6 (.take 7 (.take 8 (.take 9 (.take 10 (.take 11 .done)))))))))))) (EI [] (EI [] (AI rfl (AI (by decide) (condI hF (fun hF=>?_) (fun hF=>?_)))))))))
 ·refine OL ?_
  obtain ⟨q1_11,hq1_11,hF⟩ := bindE hF
  refine OL (AI f187_in (callV0 (callI C187 ((s_low_Hi,s_low_Lo),n) q1_11 [] false C187_holds hq1_11 rfl rfl (R3 (AI (fun h=>nomatch h) (R2 (AI TV (AI TV ?_))))))))
  obtain ⟨r1,hr1,hF⟩ := bindE hF
  refine OL (AI f133_in (callV0 (callI C133 (q1_11.1,q1_11.2) r1 [] false C133_holds hr1 rfl rfl (R2 (AI (fun h=>nomatch h) (R2 (AI TV (AI TV ?_))))))))
  have hy := someE hF
  subst hy
  refine AI rfl (E4 [(0,some 0)] (R2 (AI TV (AI rfl TV))))
 refine OL (condI hF (fun hF=>?_) (fun hF=>?_))
 ·refine OL ?_
  have hy := someE hF
  subst hy
  refine AI rfl (E4 [(0,some 0)] (R2 (AI TV (AI rfl TV))))
 refine OL ?_
 have hy := someE hF
 subst hy
 refine AI rfl (E4 [(0,some 0)] (R2 (AI TV (AI rfl TV))))
theorem C155_holds : C155.Holds Tryz.prog 155 := holds_of_vc tab_ok mixed (fn := Tryz.f155) (by kernel_rfl) rfl C155 (fun x y hF=>C155_vc x.1 x.2.1 x.2.2.1 x.2.2.2 y hF)
theorem f155_in : InP 155 := ⟨Tryz.f155,by kernel_rfl,by kernel_rfl,by kernel_rfl⟩
def f182_l1 (a : List Int) (b : List Int) (go : (Int×Int×Int×Int) → Option (Int×Int×Int)) (v12:Int) (c0_0:Int) (c0_1:Int) (c0_2:Int) : Option (Int×Int×Int) :=
 bif (decide (v12 < (if (List.length b:Int) < (List.length a:Int) then (List.length b:Int) else (List.length a:Int)))) then
 guardF (0 ≤ v12 ∧ v12 < (List.length a:Int)) <|
 guardF (0 ≤ v12 ∧ v12 < (List.length b:Int)) <|
 bindF (f154 c0_0 c0_1 c0_2 (rd (0:Int) a v12) (rd (0:Int) b v12)) fun q5_8 =>
 go ((i64.wrap (v12 + (1:Int))),q5_8.1,q5_8.2.1,q5_8.2.2)
 else
 some (c0_0,c0_1,c0_2)
def f182 (a : List Int) (b : List Int) : Option Int :=
 bindF (loopF (fun go x=>f182_l1 a b go x.1 x.2.1 x.2.2.1 x.2.2.2) fuelN ((0:Int),(0:Int),(0:Int),(0:Int))) fun z1 =>
 bindF (f155 z1.1 z1.2.1 z1.2.2 (32:Int)) fun r2 =>
 some r2.1
def C182 : Con where
 X := (List Int)×(List Int)
 Y := Int
 e := 0
 args x := [.dat T4 x.1,.dat T4 x.2]
 hin x := []
 F x := f182 x.1 x.2
 ret y := [.dat T0 y]
 hout y := []
 nout := 0
theorem C182_vc (a : List Int) (b : List Int) (y:Int) (hF : f182 a b = some y) : VC Tryz.f182 C182 (a,b) y := by
 unfold f182 at hF
 refine OL (OL (OL (OL ?_)))
 obtain ⟨z1,hz1,hF⟩ := bindE hF
 refine loopI (Int×Int×Int×Int) (Int×Int×Int) (fun x=>⟨[(0,.dat T4 a),(1,.dat T4 b),(5,P0 0 0),(11,.dat T0 (if (List.length b:Int) < (List.length a:Int) then (List.length b:Int) else (List.length a:Int))),(12,.dat T0 x.1)],[(0,.cells [(.d T0 x.2.1),(.d T0 x.2.2.1),(.d T8 x.2.2.2)])],1⟩) (fun z=>[(2,⟨[(5,P0 0 0)],[(0,.cells [(.d T0 z.1),(.d T0 z.2.1),(.d T8 z.2.2)])],1⟩)]) (loopF (fun go x=>f182_l1 a b go x.1 x.2.1 x.2.2.1 x.2.2.2)) fuelN ((0:Int),(0:Int),(0:Int),(0:Int)) z1 (AI hz1 (AI (E4 [(0,some 0)] (R5 (AI (AI rfl TV) (AI rfl TV)))) (AI (fun _ _ h=>loopZ h) (AI (fun m=>curI (fun v12=>curI (fun c0_0=>curI (fun c0_1=>fun c0_2 z hF=>?_)))) ?_))))
 ·have hF : f182_l1 a b (loopF (fun go x=>f182_l1 a b go x.1 x.2.1 x.2.2.1 x.2.2.2) m) v12 c0_0 c0_1 c0_2 = some z := hF
  unfold f182_l1 at hF
  refine OL (OL (condI hF (fun hF=>?_) (fun hF=>?_)))
  ·refine OL (OL (EI (.take 0 (.take 1 (.take 2 (.take 3 (.take 4 (.take 5 (.take 6 (.take 7 (.alt 8 .done .done))))))))) (EI [] (EI [] (AI rfl (guardI hF (fun hF=>?_)))))))
   refine guardI hF (fun hF=>?_)
   refine AI TV ?_
   obtain ⟨q5_8,hq5_8,hF⟩ := bindE hF
   refine OL (AI f154_in (callV0 (callI C154 (c0_0,c0_1,c0_2,(rd (0:Int) a v12),(rd (0:Int) b v12)) q5_8 [(0,some 0)] false C154_holds hq5_8 rfl rfl (R2 (AI (fun h=>nomatch h) (R2 (AI (AI rfl TV) (AI (AI rfl TV) (EI ((i64.wrap (v12 + (1:Int))),q5_8.1,q5_8.2.1,q5_8.2.2) (AI hF (E4 [(0,some 0)] (R5 (AI (AI rfl TV) (AI rfl TV))))))))))))))
  have hz := someE hF
  subst hz
  refine E4 [(0,some 0)] (AI rfl (AI (AI rfl TV) (AI rfl TV)))
 refine AI (OL ?_) TV
 obtain ⟨r2,hr2,hF⟩ := bindE hF
 refine OL (AI f155_in (callV0 (callI C155 (z1.1,z1.2.1,z1.2.2,(32:Int)) r2 [(0,some 0)] false C155_holds hr2 rfl rfl (AI rfl (AI (fun h=>nomatch h) (R2 (AI (AI rfl TV) (AI (AI rfl TV) ?_))))))))
 have hy := someE hF
 subst hy
 refine AI rfl (E4 [] (R2 (AI TV TV)))
theorem C182_holds : C182.Holds Tryz.prog 182 := holds_of_vc tab_ok mixed (fn := Tryz.f182) (by kernel_rfl) rfl C182 (fun x y hF=>C182_vc x.1 x.2 y hF)
theorem f182_in : InP 182 := ⟨Tryz.f182,by kernel_rfl,by kernel_rfl,by kernel_rfl⟩
def f143_j4 (a : (List Int)×(List Int)) (b : (List Int)×(List Int)) : Option Bool :=
 bindF (f86 (a.1,a.2)) fun r9 =>
 bif (!r9) then
 some true
 else
 bindF (f86 (b.1,b.2)) fun r10 =>
 some (!r10)
def f143_j5 (a : (List Int)×(List Int)) (b : (List Int)×(List Int)) : Option Bool :=
 bindF (f144 (a.1,a.2)) fun q3_1 =>
 bif (!q3_1) then
 some true
 else
 bindF (f144 (b.1,b.2)) fun q3_5 =>
 bif (!q3_5) then
 some true
 else
 guardF (0 ≤ (1:Int) ∧ (1:Int) < (List.length a.1:Int)) <|
 guardF (0 ≤ (0:Int) ∧ (0:Int) < (List.length b.1:Int)) <|
 some ((rd (0:Int) a.1 (1:Int)) != (rd (0:Int) b.1 (0:Int)))
def f143_j3 (a : (List Int)×(List Int)) (b : (List Int)×(List Int)) : Option (Sum Unit Int) :=
 bindF (f143_j4 a b) fun z8 =>
 bif z8 then
 some (Sum.inr (1:Int))
 else
 bindF (f143_j5 a b) fun z11 =>
 bif z11 then
 some (Sum.inr (4:Int))
 else
 some (Sum.inl ())
def f143_l9 (a : (List Int)×(List Int)) (b : (List Int)×(List Int)) (r12 : Int×(List Int)×(List Int)) (v74:Int) (go : (Int×(List Int)) → Option (List Int)) (v78:Int) (l5_2 : List Int) : Option (List Int) :=
 bif (decide (v78 < (rd (0:Int) b.1 (1:Int)))) then
 guardF (0 ≤ (i64.wrap (v74 * (rd (0:Int) a.1 (1:Int)))) ∧ (i64.wrap (v74 * (rd (0:Int) a.1 (1:Int)))) ≤ (i64.wrap ((i64.wrap (v74 + (1:Int))) * (rd (0:Int) a.1 (1:Int)))) ∧ (i64.wrap ((i64.wrap (v74 + (1:Int))) * (rd (0:Int) a.1 (1:Int)))) ≤ (List.length a.2:Int)) <|
 guardF (0 ≤ (i64.wrap (v78 * (rd (0:Int) a.1 (1:Int)))) ∧ (i64.wrap (v78 * (rd (0:Int) a.1 (1:Int)))) ≤ (i64.wrap ((i64.wrap (v78 + (1:Int))) * (rd (0:Int) a.1 (1:Int)))) ∧ (i64.wrap ((i64.wrap (v78 + (1:Int))) * (rd (0:Int) a.1 (1:Int)))) ≤ (List.length r12.2.2:Int)) <|
 bindF (f182 (List.drop (Int.toNat (i64.wrap (v74 * (rd (0:Int) a.1 (1:Int))))) (List.take (Int.toNat (i64.wrap ((i64.wrap (v74 + (1:Int))) * (rd (0:Int) a.1 (1:Int))))) a.2)) (List.drop (Int.toNat (i64.wrap (v78 * (rd (0:Int) a.1 (1:Int))))) (List.take (Int.toNat (i64.wrap ((i64.wrap (v78 + (1:Int))) * (rd (0:Int) a.1 (1:Int))))) r12.2.2))) fun q16_27 =>
 guardF (0 ≤ (i64.wrap ((i64.wrap (v74 * (rd (0:Int) b.1 (1:Int)))) + v78)) ∧ (i64.wrap ((i64.wrap (v74 * (rd (0:Int) b.1 (1:Int)))) + v78)) < (List.length l5_2:Int)) <|
 go ((i64.wrap (v78 + (1:Int))),(List.set l5_2 (Int.toNat (i64.wrap ((i64.wrap (v74 * (rd (0:Int) b.1 (1:Int)))) + v78))) q16_27))
 else
 some l5_2
def f143_l8 (a : (List Int)×(List Int)) (b : (List Int)×(List Int)) (r12 : Int×(List Int)×(List Int)) (go : (Int×(List Int)) → Option (List Int)) (v74:Int) (l5 : List Int) : Option (List Int) :=
 bif (decide (v74 < (rd (0:Int) a.1 (0:Int)))) then
 bindF (loopF (fun go x=>f143_l9 a b r12 v74 go x.1 x.2) fuelN ((0:Int),l5)) fun z16 =>
 go ((i64.wrap (v74 + (1:Int))),z16)
 else
 some l5
def f143 (a : (List Int)×(List Int)) (b : (List Int)×(List Int)) : Option (Int×(List Int)×(List Int)) :=
 bindF (f143_j3 a b) fun z6 =>
 sumF z6 (fun z6a =>
 guardF (0 ≤ (0:Int) ∧ (0:Int) < (List.length a.1:Int)) <|
 guardF (0 ≤ (1:Int) ∧ (1:Int) < (List.length a.1:Int)) <|
 guardF (0 ≤ (1:Int) ∧ (1:Int) < (List.length b.1:Int)) <|
 bindF (f52 ([(rd (0:Int) a.1 (0:Int)),(rd (0:Int) b.1 (1:Int))]) (0:Int)) fun q5_14 =>
 bif (q5_14.1 != (0:Int)) then
 some ((2:Int),[],[])
 else
 bindF (f113 (b.1,b.2)) fun r12 =>
 bindF (loopF (fun go x=>f143_l8 a b r12 go x.1 x.2) fuelN ((0:Int),q5_14.2.2)) fun z15 =>
 some ((0:Int),q5_14.2.1,z15)) (fun z6b =>
 some (z6b,[],[]))
def C143 : Con where
 X := ((List Int)×(List Int))×((List Int)×(List Int))
 Y := Int×(List Int)×(List Int)
 e := 0
 args x := [.dat T7 x.1,.dat T7 x.2]
 hin x := []
 F x := f143 x.1 x.2
 ret y := [.raw true [(.osl 0),(.osl 1)],.dat T0 y.1]
 hout y := [(0,.arr 3 T0 y.2.1),(1,.arr 23 T0 y.2.2)]
 nout := 2
theorem C143_vc (a : (List Int)×(List Int)) (b : (List Int)×(List Int)) (y : Int×(List Int)×(List Int)) (hF : f143 a b = some y) : VC Tryz.f143 C143 (a,b) y := by
 unfold f143 at hF
 refine OL ?_
 obtain ⟨z6,hz6,hF⟩ := bindE hF
 refine OQ ⟨Sum.elim (fun z6a=>[(0,⟨[(2,P0 0 0),(3,P0 1 0),(4,P0 2 0)],[(0,.cells [(.d T4 a.1),(.d T4 a.2)]),(1,.cells [(.d T4 b.1),(.d T4 b.2)]),(2,.cells [N0,N0])],3⟩)]) (fun z6b=>[(1,⟨[(4,P0 0 0),(5,.dat T0 z6b)],[(0,.cells [N0,N0])],1⟩)]) z6,?_,?_⟩
 ·have hF := hz6
  clear hz6
  unfold f143_j3 at hF
  obtain ⟨z8,hz8,hF⟩ := bindE hF
  refine OQ ⟨[(0,⟨[(2,P0 0 0),(3,P0 1 0),(4,P0 2 0),(15,.dat .bool z8)],[(0,.cells [(.d T4 a.1),(.d T4 a.2)]),(1,.cells [(.d T4 b.1),(.d T4 b.2)]),(2,.cells [N0,N0])],3⟩)],?_,?_⟩
  ·have hF := hz8
   clear hz8
   unfold f143_j4 at hF
   obtain ⟨r9,hr9,hF⟩ := bindE hF
   refine OL (AI f86_in (callV0 (callI C86 (a.1,a.2) r9 [] false C86_holds hr9 rfl rfl (R2 (AI (fun h=>nomatch h) (R2 (AI TV (AI TV (condN hF (fun hF=>?_) (fun hF=>?_))))))))))
   ·refine gdYF ?_
    obtain ⟨r10,hr10,hF⟩ := bindE hF
    refine OL (AI f86_in (callV0 (callI C86 (b.1,b.2) r10 [] false C86_holds hr10 rfl rfl (R2 (AI (fun h=>nomatch h) (R2 (AI TV (AI TV (gdYF (condF ?_))))))))))
    have hz := someE hF
    subst hz
    refine E4 [(0,some 0),(1,some 1),(2,some 2)] (R2 (AI (R3 TV) (R3 TV)))
   refine gdNF (gdNF (condT ?_))
   have hz := someE hF
   subst hz
   refine E4 [(0,some 0),(1,some 1),(2,some 2)] (R2 (AI (R3 TV) (R3 TV)))
  refine AI (condI hF (fun hF=>?_) (fun hF=>?_)) TV
  ·refine OL (OL ?_)
   have hz := someE hF
   subst hz
   refine E4 [(0,some 2)] (R2 (AI (AI rfl TV) (AI rfl TV)))
  obtain ⟨z11,hz11,hF⟩ := bindE hF
  refine OQ ⟨[(0,⟨[(2,P0 0 0),(3,P0 1 0),(4,P0 2 0),(25,.dat .bool z11)],[(0,.cells [(.d T4 a.1),(.d T4 a.2)]),(1,.cells [(.d T4 b.1),(.d T4 b.2)]),(2,.cells [N0,N0])],3⟩)],?_,?_⟩
  ·have hF := hz11
   clear hz11
   unfold f143_j5 at hF
   refine EI (.take 0 (.alt 1 (.take 2 (.take 3 (.take 4 (.alt 5 (.take 6 (.take 7 (.take 8 (.take 9 (.take 10 (.take 11 (.take 12 (.take 13 (.take 14 (.take 15 (.take 16 (.take 17 (.take 18 (.take 19 .done)))))))))))))) .done)))) .done)) (EI [] (EI [] (AI rfl (AI TV ?_))))
   obtain ⟨q3_1,hq3_1,hF⟩ := bindE hF
   refine OL (AI f144_in (callV0 (callI C144 (a.1,a.2) q3_1 [] false C144_holds hq3_1 rfl rfl (R2 (AI (fun h=>nomatch h) (R2 (AI TV (AI TV (condN hF (fun hF=>?_) (fun hF=>?_))))))))))
   ·refine AI TV (gdYF ?_)
    obtain ⟨q3_5,hq3_5,hF⟩ := bindE hF
    refine OL (AI f144_in (callV0 (callI C144 (b.1,b.2) q3_5 [] false C144_holds hq3_5 rfl rfl (R2 (AI (fun h=>nomatch h) (R2 (AI TV (AI TV (gdYF (condF (condN hF (fun hF=>?_) (fun hF=>?_))))))))))))
    ·refine gdYF (gdYF (guardI hF (fun hF=>?_)))
     refine gdYF (gdYF (gdYF (gdYF (guardI hF (fun hF=>?_)))))
     refine gdYF (gdYF (condF ?_))
     have hz := someE hF
     subst hz
     refine E4 [(0,some 0),(1,some 1),(2,some 2)] (R2 (AI (R3 TV) (R3 TV)))
    refine gdNF (gdNF (gdNF (gdNF (gdNF (gdNF (gdNF (gdNF (condT ?_))))))))
    have hz := someE hF
    subst hz
    refine E4 [(0,some 0),(1,some 1),(2,some 2)] (R2 (AI (R3 TV) (R3 TV)))
   refine AI TV (gdNF (gdNF (condT (gdNF (gdNF (gdNF (gdNF (gdNF (gdNF (gdNF (gdNF (gdNF (condT ?_)))))))))))))
   have hz := someE hF
   subst hz
   refine E4 [(0,some 0),(1,some 1),(2,some 2)] (R2 (AI (R3 TV) (R3 TV)))
  refine AI (condI hF (fun hF=>?_) (fun hF=>?_)) TV
  ·refine OL (OL ?_)
   have hz := someE hF
   subst hz
   refine E4 [(0,some 2)] (R2 (AI (AI rfl TV) (AI rfl TV)))
  have hz := someE hF
  subst hz
  refine E4 [(0,some 0),(1,some 1),(2,some 2)] (AI rfl (AI (R3 TV) (R3 TV)))
 rcases z6 with z6a | z6b
 ·dsimp only [sumF] at hF
  refine AI (OL (EI (.take 0 (.take 1 (.take 2 (.take 3 (.take 4 (.take 5 (.take 6 (.take 7 (.take 8 (.take 9 (.take 10 (.take 11 (.take 12 (.take 13 (.take 14 .done))))))))))))))) (EI [] (EI [] (AI rfl (guardI hF (fun hF=>?_))))))) TV
  refine guardI hF (fun hF=>?_)
  refine guardI hF (fun hF=>?_)
  refine OL (OL ?_)
  obtain ⟨q5_14,hq5_14,hF⟩ := bindE hF
  refine OL (AI f52_in (callV0 (callI C52 ([(rd (0:Int) a.1 (0:Int)),(rd (0:Int) b.1 (1:Int))],(0:Int)) q5_14 [] true C52_holds hq5_14 rfl rfl (R2 (AI (fun _=>rfl) (R2 (AI TV (AI TV (OL (OL (OL (condI hF (fun hF=>?_) (fun hF=>?_)))))))))))))
  ·refine OL (OL ?_)
   have hy := someE hF
   subst hy
   refine AI rfl (E4 [(0,none),(1,none)] (R2 (AI (AI rfl TV) (R2 TV))))
  refine OL ?_
  obtain ⟨r12,hr12,hF⟩ := bindE hF
  refine OL (AI f113_in (callV0 (callI C113 (b.1,b.2) r12 [] false C113_holds hr12 rfl rfl (R2 (AI (fun h=>nomatch h) (R2 (AI TV (AI TV (OL (OL (OL ?_)))))))))))
  obtain ⟨z15,hz15,hF⟩ := bindE hF
  refine loopI (Int×(List Int)) (List Int) (fun x=>⟨[(2,P0 0 0),(4,P0 1 0),(7,.dat T0 (rd (0:Int) a.1 (1:Int))),(8,.dat T0 (rd (0:Int) b.1 (1:Int))),(9,P0 2 0),(11,P0 3 0),(73,.dat T0 (rd (0:Int) a.1 (0:Int))),(74,.dat T0 x.1)],[(0,.cells [(.d T4 a.1),(.d T4 a.2)]),(1,.cells [N0,N0]),(2,.cells [(.osl 4),(.osl 5)]),(3,.cells [(.osl 6),(.d T4 r12.2.2)]),(4,.arr 3 T0 q5_14.2.1),(5,.arr 23 T0 x.2),(6,.arr 3 T0 r12.2.1)],7⟩) (fun z=>[(3,⟨[(4,P0 0 0),(9,P0 1 0)],[(0,.cells [N0,N0]),(1,.cells [(.osl 2),(.osl 3)]),(2,.arr 3 T0 q5_14.2.1),(3,.arr 23 T0 z)],4⟩)]) (loopF (fun go x=>f143_l8 a b r12 go x.1 x.2)) fuelN ((0:Int),q5_14.2.2) z15 (AI hz15 (AI (EI [] (EI [] (EI [] (EI [8] (EI [(0,some 0),(1,some 2),(2,some 6),(3,some 9),(4,some 4),(5,some 5),(6,some 7)] (R5 (AI (R4 TV) (R7 TV)))))))) (AI (fun _ _ h=>loopZ h) (AI (fun m=>curI (fun v74=>fun l5 z hF=>?_)) ?_))))
  ·have hF : f143_l8 a b r12 (loopF (fun go x=>f143_l8 a b r12 go x.1 x.2) m) v74 l5 = some z := hF
   unfold f143_l8 at hF
   refine OL (OL (condI hF (fun hF=>?_) (fun hF=>?_)))
   ·refine OL (OL (OL ?_))
    obtain ⟨z16,hz16,hF⟩ := bindE hF
    refine loopI (Int×(List Int)) (List Int) (fun x=>⟨[(2,P0 0 0),(4,P0 1 0),(7,.dat T0 (rd (0:Int) a.1 (1:Int))),(8,.dat T0 (rd (0:Int) b.1 (1:Int))),(9,P0 2 0),(11,P0 3 0),(13,.dat T0 v74),(73,.dat T0 (rd (0:Int) a.1 (0:Int))),(74,.dat T0 v74),(77,.dat T0 (rd (0:Int) b.1 (1:Int))),(78,.dat T0 x.1)],[(0,.cells [(.d T4 a.1),(.d T4 a.2)]),(1,.cells [N0,N0]),(2,.cells [(.osl 4),(.osl 5)]),(3,.cells [(.osl 6),(.d T4 r12.2.2)]),(4,.arr 3 T0 q5_14.2.1),(5,.arr 23 T0 x.2),(6,.arr 3 T0 r12.2.1)],7⟩) (fun z=>[(5,⟨[(2,P0 0 0),(4,P0 1 0),(7,.dat T0 (rd (0:Int) a.1 (1:Int))),(8,.dat T0 (rd (0:Int) b.1 (1:Int))),(9,P0 2 0),(11,P0 3 0),(73,.dat T0 (rd (0:Int) a.1 (0:Int))),(74,.dat T0 v74)],[(0,.cells [(.d T4 a.1),(.d T4 a.2)]),(1,.cells [N0,N0]),(2,.cells [(.osl 4),(.osl 5)]),(3,.cells [(.osl 6),(.d T4 r12.2.2)]),(4,.arr 3 T0 q5_14.2.1),(5,.arr 23 T0 z),(6,.arr 3 T0 r12.2.1)],7⟩)]) (loopF (fun go x=>f143_l9 a b r12 v74 go x.1 x.2)) fuelN ((0:Int),l5) z16 (AI hz16 (AI (E4 [(0,some 0),(1,some 1),(2,some 2),(3,some 3),(4,some 4),(5,some 5),(6,some 6)] (R8 (AI (R4 TV) (R7 TV)))) (AI (fun _ _ h=>loopZ h) (AI (fun m=>curI (fun v78=>fun l5_2 z hF=>?_)) ?_))))
    ·have hF : f143_l9 a b r12 v74 (loopF (fun go x=>f143_l9 a b r12 v74 go x.1 x.2) m) v78 l5_2 = some z := hF
     unfold f143_l9 at hF
     refine OL (OL (condI hF (fun hF=>?_) (fun hF=>?_)))
     ·refine OL (OL (EI (.take 0 (.take 1 (.take 2 (.take 3 (.take 4 (.take 5 (.take 6 (.take 7 (.take 8 (.take 9 (.take 10 (.take 11 (.take 12 (.take 13 (.take 14 (.take 15 (.take 16 (.take 17 (.take 18 (.take 19 (.take 20 (.take 21 (.take 22 (.take 23 (.take 24 (.take 25 (.alt 26 (.alt 27 (.take 28 (.alt 29 .done .done)) .done) .done))))))))))))))))))))))))))) (EI [] (EI [] (AI rfl (guardI hF (fun hF=>?_)))))))
      refine AI TV (guardI hF (fun hF=>?_))
      refine AI TV ?_
      obtain ⟨q16_27,hq16_27,hF⟩ := bindE hF
      refine OL (AI f182_in (callV0 (callI C182 ((List.drop (Int.toNat (i64.wrap (v74 * (rd (0:Int) a.1 (1:Int))))) (List.take (Int.toNat (i64.wrap ((i64.wrap (v74 + (1:Int))) * (rd (0:Int) a.1 (1:Int))))) a.2)),(List.drop (Int.toNat (i64.wrap (v78 * (rd (0:Int) a.1 (1:Int))))) (List.take (Int.toNat (i64.wrap ((i64.wrap (v78 + (1:Int))) * (rd (0:Int) a.1 (1:Int))))) r12.2.2))) q16_27 [] false C182_holds hq16_27 rfl rfl (R2 (AI (fun h=>nomatch h) (R2 (AI TV (AI TV (guardI hF (fun hF=>?_))))))))))
      refine AI TV (OL (EI ((i64.wrap (v78 + (1:Int))),(List.set l5_2 (Int.toNat (i64.wrap ((i64.wrap (v74 * (rd (0:Int) b.1 (1:Int)))) + v78))) q16_27)) (AI hF (E4 [(0,some 0),(1,some 1),(2,some 2),(3,some 3),(4,some 4),(5,some 5),(6,some 6)] (R8 (AI (R4 TV) (R7 TV)))))))
     have hz := someE hF
     subst hz
     refine E4 [(0,some 0),(1,some 1),(2,some 2),(3,some 3),(4,some 4),(5,some 5),(6,some 6)] (R5 (AI (R4 TV) (R7 TV)))
    refine AI (EI ((i64.wrap (v74 + (1:Int))),z16) (AI hF (E4 [(0,some 0),(1,some 1),(2,some 2),(3,some 3),(4,some 4),(5,some 5),(6,some 6)] (R5 (AI (R4 TV) (R7 TV)))))) TV
   have hz := someE hF
   subst hz
   refine E4 [(0,some 1),(1,some 2),(2,some 4),(3,some 5)] (AI rfl (AI (R2 TV) (R4 TV)))
  refine AI (OL (OL ?_)) TV
  have hy := someE hF
  subst hy
  refine AI rfl (E4 [(0,some 2),(1,some 3)] (R2 (AI (AI rfl TV) (R2 TV))))
 dsimp only [sumF] at hF
 refine AI ?_ TV
 have hy := someE hF
 subst hy
 refine AI rfl (E4 [(0,none),(1,none)] (R2 (AI (AI rfl TV) (R2 TV))))
theorem C143_holds : C143.Holds Tryz.prog 143 := holds_of_vc tab_ok mixed (fn := Tryz.f143) (by kernel_rfl) rfl C143 (fun x y hF=>C143_vc x.1 x.2 y hF)
theorem f143_in : InP 143 := ⟨Tryz.f143,by kernel_rfl,by kernel_rfl,by kernel_rfl⟩
def f150 (step:Int) : Option Bool :=
 bif (decide (step ≥ (1:Int))) then
 some (decide (step ≤ (64:Int)))
 else
 some false
def C150 : Con where
 X := Int
 Y := Bool
 e := 0
 args x := [.dat T0 x]
 hin x := []
 F x := f150 x
 ret y := [.dat .bool y]
 hout y := []
 nout := 0
theorem C150_vc (step:Int) (y : Bool) (hF : f150 step = some y) : VC Tryz.f150 C150 step y := by
 unfold f150 at hF
 refine OL (OL (condI hF (fun hF=>?_) (fun hF=>?_)))
 ·refine gdYT (condT ?_)
  have hy := someE hF
  subst hy
  refine AI rfl (E4 [] (R2 (AI TV TV)))
 refine gdNT (condF ?_)
 have hy := someE hF
 subst hy
 refine AI rfl (E4 [] (R2 (AI TV TV)))
theorem C150_holds : C150.Holds Tryz.prog 150 := holds_of_vc tab_ok mixed (fn := Tryz.f150) (by kernel_rfl) rfl C150 (fun x y hF=>C150_vc x y hF)
theorem f150_in : InP 150 := ⟨Tryz.f150,by kernel_rfl,by kernel_rfl,by kernel_rfl⟩
end Go.Proofs
