import Derived.Test.YtdnlicefpmiljaaGreatDoorModelSkipsS3
set_option linter.unusedVariables false
set_option maxRecDepth 100000
set_option maxHeartbeats 8000000
namespace Go.Proofs
open Go.AM
open IntKind (i64 u64 i32 u32 i16 u16 i8 u8)
def f80_j1 (d : List Int) (at_:Int) : Option (Sum Unit Unit) :=
 bindF (f76 d) fun r4 =>
 bif (!r4) then
 some (Sum.inr ())
 else
 bif (decide (at_ < (0:Int))) then
 some (Sum.inr ())
 else
 bindF (f50 d) fun r5 =>
 bif (decide (at_ ≥ r5)) then
 some (Sum.inr ())
 else
 some (Sum.inl ())
def f80_l2 (d : List Int) (go : (Int×Int×(List Int)) → Option (List Int)) (at__2:Int) (i:Int) (l0 : List Int) : Option (List Int) :=
 bif (decide (i ≥ (0:Int))) then
 guardF (0 ≤ i ∧ i < (List.length d:Int)) <|
 guardF ((rd (0:Int) d i) ≠ 0) <|
 guardF (0 ≤ i ∧ i < (List.length l0:Int)) <|
 guardF (0 ≤ i ∧ i < (List.length d:Int)) <|
 guardF ((rd (0:Int) d i) ≠ 0) <|
 go ((i64.wrap (Int.tdiv at__2 (rd (0:Int) d i))),(i64.wrap (i - (1:Int))),(List.set l0 (Int.toNat i) (Int.tmod at__2 (rd (0:Int) d i))))
 else
 some l0
def f80 (d : List Int) (at_:Int) : Option (Bool×(List Int)) :=
 bindF (f80_j1 d at_) fun z3 =>
 sumF z3 (fun z3a =>
 guardF (0 ≤ (List.length d:Int) ∧ (List.length d:Int) ≤ (List.length d:Int) ∧ Int.toNat (List.length d:Int) * 8 ≤ 140737488355328) <|
 bindF (loopF (fun go x=>f80_l2 d go x.1 x.2.1 x.2.2) fuelN (at_,(i64.wrap ((List.length d:Int) - (1:Int))),(List.replicate (Int.toNat (List.length d:Int)) (0:Int)))) fun z6 =>
 some (true,z6)) (fun z3b =>
 some (false,[]))
def C80 : Con where
 X := (List Int)×Int
 Y := Bool×(List Int)
 e := 0
 args x := [.dat T6 x.1,.dat T1 x.2]
 hin x := []
 F x := f80 x.1 x.2
 ret y := [O0 0,.dat .bool y.1]
 hout y := [(0,.arr 3 T1 y.2)]
 nout := 1
theorem C80_vc (d : List Int) (at_:Int) (y : Bool×(List Int)) (hF : f80 d at_ = some y) : VC Tryz.f80 C80 (d,at_) y := by
 unfold f80 at hF
 refine OL ?_
 obtain ⟨z3,hz3,hF⟩ := bindE hF
 refine OQ ⟨Sum.elim (fun z3a=>[(0,⟨[(0,.dat T6 d),(1,.dat T1 at_)],[],0⟩)]) (fun z3b=>[(1,⟨[(4,.raw false [N0]),(5,.dat .bool false)],[],0⟩)]) z3,?_,?_⟩
 ·have hF := hz3
  clear hz3
  unfold f80_j1 at hF
  refine OL ?_
  obtain ⟨r4,hr4,hF⟩ := bindE hF
  refine OL (AI f76_in (callV0 (callI C76 d r4 [] false C76_holds hr4 rfl rfl (AI rfl (AI (fun h=>nomatch h) (R2 (AI TV (AI TV (condN hF (fun hF=>?_) (fun hF=>?_))))))))))
  ·refine gdYF (condF (condN hF (fun hF=>?_) (fun hF=>?_)))
   ·refine gdYF (gdYF ?_)
    obtain ⟨r5,hr5,hF⟩ := bindE hF
    refine OL (AI f50_in (callV0 (callI C50 d r5 [] false C50_holds hr5 rfl rfl (AI rfl (AI (fun h=>nomatch h) (R2 (AI TV (AI TV (gdYF (condF (condI hF (fun hF=>?_) (fun hF=>?_))))))))))))
    ·refine OL ?_
     have hz := someE hF
     subst hz
     refine E4 [] (R2 (AI (AI rfl TV) TV))
    have hz := someE hF
    subst hz
    refine E4 [] (R3 (AI TV TV))
   refine gdNF (gdNF (gdNF (condT (condT (OL ?_)))))
   have hz := someE hF
   subst hz
   refine E4 [] (R2 (AI (AI rfl TV) TV))
  refine gdNF (condT (gdNF (gdNF (gdNF (gdNF (condT (condT (OL ?_))))))))
  have hz := someE hF
  subst hz
  refine E4 [] (R2 (AI (AI rfl TV) TV))
 rcases z3 with z3a | z3b
 ·dsimp only [sumF] at hF
  refine AI (OL (guardI hF (fun hF=>?_))) TV
  refine OL (OL ?_)
  obtain ⟨z6,hz6,hF⟩ := bindE hF
  refine loopI (Int×Int×(List Int)) (List Int) (fun x=>⟨[(0,.dat T6 d),(1,.dat T1 x.1),(6,O0 0),(7,.dat T1 x.2.1)],[(0,.arr 3 T1 x.2.2)],1⟩) (fun z=>[(2,⟨[(6,O0 0)],[(0,.arr 3 T1 z)],1⟩)]) (loopF (fun go x=>f80_l2 d go x.1 x.2.1 x.2.2)) fuelN (at_,(i64.wrap ((List.length d:Int) - (1:Int))),(List.replicate (Int.toNat (List.length d:Int)) (0:Int))) z6 (AI hz6 (AI (E4 [(0,some 0)] (R4 (AI (AI rfl TV) (AI rfl TV)))) (AI (fun _ _ h=>loopZ h) (AI (fun m=>curI (fun at__2=>curI (fun i=>fun l0 z hF=>?_))) ?_))))
  ·have hF : f80_l2 d (loopF (fun go x=>f80_l2 d go x.1 x.2.1 x.2.2) m) at__2 i l0 = some z := hF
   unfold f80_l2 at hF
   refine OL (OL (condI hF (fun hF=>?_) (fun hF=>?_)))
   ·refine OL (OL (guardI hF (fun hF=>?_)))
    refine guardI hF (fun hF=>?_)
    refine guardI hF (fun hF=>?_)
    refine OL (guardI hF (fun hF=>?_))
    refine guardI hF (fun hF=>?_)
    refine EI ((i64.wrap (Int.tdiv at__2 (rd (0:Int) d i))),(i64.wrap (i - (1:Int))),(List.set l0 (Int.toNat i) (Int.tmod at__2 (rd (0:Int) d i)))) (AI hF (E4 [(0,some 0)] (R4 (AI (AI rfl TV) (AI rfl TV)))))
   have hz := someE hF
   subst hz
   refine E4 [(0,some 0)] (AI rfl (AI (AI rfl TV) (AI rfl TV)))
  refine AI (OL ?_) TV
  have hy := someE hF
  subst hy
  refine AI rfl (E4 [(0,some 0)] (R2 (AI (AI rfl TV) (AI rfl TV))))
 dsimp only [sumF] at hF
 refine AI ?_ TV
 have hy := someE hF
 subst hy
 refine AI rfl (E4 [(0,none)] (R2 (AI (AI rfl TV) (AI rfl TV))))
theorem C80_holds : C80.Holds Tryz.prog 80 := holds_of_vc tab_ok mixed (fn := Tryz.f80) (by kernel_rfl) rfl C80 (fun x y hF=>C80_vc x.1 x.2 y hF)
theorem f80_in : InP 80 := ⟨Tryz.f80,by kernel_rfl,by kernel_rfl,by kernel_rfl⟩
def f54_j1 (big : List Int) (r1 : Int×(List Int)) : Option (Sum Unit Unit) :=
 bif (r1.1 != (0:Int)) then
 some (Sum.inr ())
 else
 bindF (f13 r1.2 big) fun r4 =>
 bif (!r4) then
 some (Sum.inr ())
 else
 some (Sum.inl ())
def f54_j5 (d : List Int) (r5 : Bool×(List Int)) (i:Int) : Option Int :=
 guardF (0 ≤ i ∧ i < (List.length d:Int)) <|
 bif ((rd (0:Int) d i) == (1:Int)) then
 some (0:Int)
 else
 some (rd (0:Int) r5.2 (i64.wrap ((i64.wrap ((List.length r5.2:Int) - (List.length d:Int))) + i)))
def f54_l4 (d : List Int) (r5 : Bool×(List Int)) (go : (Int×Int) → Option Int) (n:Int) (i:Int) : Option Int :=
 bif (decide (i < (List.length d:Int))) then
 guardF (0 ≤ (i64.wrap ((i64.wrap ((List.length r5.2:Int) - (List.length d:Int))) + i)) ∧ (i64.wrap ((i64.wrap ((List.length r5.2:Int) - (List.length d:Int))) + i)) < (List.length r5.2:Int)) <|
 bindF (f54_j5 d r5 i) fun z9 =>
 guardF (0 ≤ i ∧ i < (List.length d:Int)) <|
 go ((i64.wrap ((i64.wrap (n * (rd (0:Int) d i))) + z9)),(i64.wrap (i + (1:Int))))
 else
 some n
def f54 (d : List Int) (big : List Int) (at_:Int) : Option (Int×Bool) :=
 bindF (f53 d big) fun r1 =>
 bindF (f54_j1 big r1) fun z3 =>
 sumF z3 (fun z3a =>
 bindF (f80 big at_) fun r5 =>
 bif (!r5.1) then
 some ((0:Int),false)
 else
 bindF (loopF (fun go x=>f54_l4 d r5 go x.1 x.2) fuelN ((0:Int),(0:Int))) fun z8 =>
 some (z8,true)) (fun z3b =>
 some ((0:Int),false))
def C54 : Con where
 X := (List Int)×(List Int)×Int
 Y := Int×Bool
 e := 0
 args x := [.dat T6 x.1,.dat T6 x.2.1,.dat T1 x.2.2]
 hin x := []
 F x := f54 x.1 x.2.1 x.2.2
 ret y := [.dat T1 y.1,.dat .bool y.2]
 hout y := []
 nout := 0
theorem C54_vc (d : List Int) (big : List Int) (at_:Int) (y : Int×Bool) (hF : f54 d big at_ = some y) : VC Tryz.f54 C54 (d,big,at_) y := by
 unfold f54 at hF
 refine OL (OL ?_)
 obtain ⟨r1,hr1,hF⟩ := bindE hF
 refine OL (AI f53_in (callV0 (callI C53 (d,big) r1 [] false C53_holds hr1 rfl rfl (R2 (AI (fun h=>nomatch h) (R2 (AI TV (AI TV ?_))))))))
 obtain ⟨z3,hz3,hF⟩ := bindE hF
 refine OQ ⟨Sum.elim (fun z3a=>[(0,⟨[(0,.dat T6 d),(1,.dat T6 big),(2,.dat T1 at_)],[],0⟩)]) (fun z3b=>[(1,⟨[(6,D0 0),(7,.dat .bool false)],[],0⟩)]) z3,?_,?_⟩
 ·have hF := hz3
  clear hz3
  unfold f54_j1 at hF
  refine OL (condN hF (fun hF=>?_) (fun hF=>?_))
  ·refine gdYF (gdYF ?_)
   obtain ⟨r4,hr4,hF⟩ := bindE hF
   refine OL (AI f13_in (callV0 (callI C13 (r1.2,big) r4 [] true C13_holds hr4 rfl rfl (R2 (AI (fun _=>rfl) (R2 (AI TV (AI TV (gdYF (condF (condI hF (fun hF=>?_) (fun hF=>?_))))))))))))
   ·refine OL ?_
    have hz := someE hF
    subst hz
    refine E4 [] (R3 (AI TV TV))
   have hz := someE hF
   subst hz
   refine E4 [] (R4 (AI TV TV))
  refine gdNF (gdNF (gdNF (condT (condT (OL ?_)))))
  have hz := someE hF
  subst hz
  refine E4 [] (R3 (AI TV TV))
 rcases z3 with z3a | z3b
 ·dsimp only [sumF] at hF
  refine AI (OL ?_) TV
  obtain ⟨r5,hr5,hF⟩ := bindE hF
  refine OL (AI f80_in (callV0 (callI C80 (big,at_) r5 [] false C80_holds hr5 rfl rfl (R2 (AI (fun h=>nomatch h) (R2 (AI TV (AI TV (OL (OL (condI hF (fun hF=>?_) (fun hF=>?_))))))))))))
  ·refine OL ?_
   have hy := someE hF
   subst hy
   refine AI rfl (E4 [] (R3 (AI TV TV)))
  refine OL (OL (OL ?_))
  obtain ⟨z8,hz8,hF⟩ := bindE hF
  refine loopI (Int×Int) Int (fun x=>⟨[(0,.dat T6 d),(10,O0 0),(12,.dat T1 x.1),(13,.dat T1 x.2)],[(0,.arr 3 T1 r5.2)],1⟩) (fun z=>[(2,⟨[(12,.dat T1 z)],[],0⟩)]) (loopF (fun go x=>f54_l4 d r5 go x.1 x.2)) fuelN ((0:Int),(0:Int)) z8 (AI hz8 (AI (E4 [(0,some 0)] (R4 (AI (AI rfl TV) (AI rfl TV)))) (AI (fun _ _ h=>loopZ h) (AI (fun m=>curI (fun n=>fun i z hF=>?_)) ?_))))
  ·have hF : f54_l4 d r5 (loopF (fun go x=>f54_l4 d r5 go x.1 x.2) m) n i = some z := hF
   unfold f54_l4 at hF
   refine OL (OL (condI hF (fun hF=>?_) (fun hF=>?_)))
   ·refine OL (OL (guardI hF (fun hF=>?_)))
    obtain ⟨z9,hz9,hF⟩ := bindE hF
    refine OQ ⟨[(0,⟨[(0,.dat T6 d),(10,O0 0),(12,.dat T1 n),(13,.dat T1 i),(14,.dat T1 z9)],[(0,.arr 3 T1 r5.2)],1⟩)],?_,?_⟩
    ·have hF := hz9
     clear hz9
     unfold f54_j5 at hF
     refine OL (guardI hF (fun hF=>?_))
     refine condI hF (fun hF=>?_) (fun hF=>?_)
     ·have hz := someE hF
      subst hz
      refine E4 [(0,some 0)] (R5 (AI (AI rfl TV) (AI rfl TV)))
     have hz := someE hF
     subst hz
     refine E4 [(0,some 0)] (R5 (AI (AI rfl TV) (AI rfl TV)))
    refine AI (guardI hF (fun hF=>?_)) TV
    refine EI ((i64.wrap ((i64.wrap (n * (rd (0:Int) d i))) + z9)),(i64.wrap (i + (1:Int)))) (AI hF (E4 [(0,some 0)] (R4 (AI (AI rfl TV) (AI rfl TV)))))
   have hz := someE hF
   subst hz
   refine E4 [] (R2 (AI TV TV))
  refine AI (OL ?_) TV
  have hy := someE hF
  subst hy
  refine AI rfl (E4 [] (R3 (AI TV TV)))
 dsimp only [sumF] at hF
 refine AI ?_ TV
 have hy := someE hF
 subst hy
 refine AI rfl (E4 [] (R3 (AI TV TV)))
theorem C54_holds : C54.Holds Tryz.prog 54 := holds_of_vc tab_ok mixed (fn := Tryz.f54) (by kernel_rfl) rfl C54 (fun x y hF=>C54_vc x.1 x.2.1 x.2.2 y hF)
theorem f54_in : InP 54 := ⟨Tryz.f54,by kernel_rfl,by kernel_rfl,by kernel_rfl⟩
def f111 (n:Int) : Option Int :=
 bif (decide (n < (0:Int))) then
 some (u64.wrap ((u64.wrap (i64.wrap (0 - (i64.wrap (n + (1:Int)))))) + (1:Int)))
 else
 some (u64.wrap n)
def C111 : Con where
 X := Int
 Y := Int
 e := 0
 args x := [.dat T1 x]
 hin x := []
 F x := f111 x
 ret y := [.dat T10 y]
 hout y := []
 nout := 0
theorem C111_vc (n:Int) (y:Int) (hF : f111 n = some y) : VC Tryz.f111 C111 n y := by
 unfold f111 at hF
 refine OL (OL (OL (condI hF (fun hF=>?_) (fun hF=>?_))))
 ·refine OL ?_
  have hy := someE hF
  subst hy
  refine AI rfl (E4 [] (R2 (AI TV TV)))
 refine OL ?_
 have hy := someE hF
 subst hy
 refine AI rfl (E4 [] (R2 (AI TV TV)))
theorem C111_holds : C111.Holds Tryz.prog 111 := holds_of_vc tab_ok mixed (fn := Tryz.f111) (by kernel_rfl) rfl C111 (fun x y hF=>C111_vc x y hF)
theorem f111_in : InP 111 := ⟨Tryz.f111,by kernel_rfl,by kernel_rfl,by kernel_rfl⟩
def f83 (n:Int) : Option (Bool×Int) :=
 bindF (f111 n) fun r1 =>
 some ((decide (n < (0:Int))),r1)
def C83 : Con where
 X := Int
 Y := Bool×Int
 e := 0
 args x := [.dat T1 x]
 hin x := []
 F x := f83 x
 ret y := [.raw true [(.d .bool y.1),(.d T10 y.2),(.d T10 (0:Int)),(.d T10 (0:Int)),(.d T10 (0:Int))]]
 hout y := []
 nout := 0
theorem C83_vc (n:Int) (y : Bool×Int) (hF : f83 n = some y) : VC Tryz.f83 C83 n y := by
 unfold f83 at hF
 refine OL (OL ?_)
 obtain ⟨r1,hr1,hF⟩ := bindE hF
 refine OL (AI f111_in (callV0 (callI C111 n r1 [] false C111_holds hr1 rfl rfl (AI rfl (AI (fun h=>nomatch h) (R2 (AI TV (AI TV (OL ?_)))))))))
 have hy := someE hF
 subst hy
 refine AI rfl (E4 [] (AI rfl (AI (AI rfl TV) TV)))
theorem C83_holds : C83.Holds Tryz.prog 83 := holds_of_vc tab_ok mixed (fn := Tryz.f83) (by kernel_rfl) rfl C83 (fun x y hF=>C83_vc x y hF)
theorem f83_in : InP 83 := ⟨Tryz.f83,by kernel_rfl,by kernel_rfl,by kernel_rfl⟩
def f108_l1 (a_0:Int) (a_1:Int) (a_2:Int) (a_3:Int) (b_0:Int) (b_1:Int) (b_2:Int) (b_3:Int) (go : (Int×Int×Int×Int×Int×Int) → Option (Int×Int×Int×Int)) (carry:Int) (i:Int) (c3_0:Int) (c3_1:Int) (c3_2:Int) (c3_3:Int) : Option (Int×Int×Int×Int) :=
 bif (decide (i < (4:Int))) then
 guardF (0 ≤ i ∧ i < (4:Int)) <|
 pickF i
 [(bif (decide ((u64.wrap (a_0 + b_0)) < a_0)) then
 go ((1:Int),(i64.wrap (i + (1:Int))),(u64.wrap ((u64.wrap (a_0 + b_0)) + carry)),c3_1,c3_2,c3_3)
 else
 bif (decide ((u64.wrap ((u64.wrap (a_0 + b_0)) + carry)) < (u64.wrap (a_0 + b_0)))) then
 go ((1:Int),(i64.wrap (i + (1:Int))),(u64.wrap ((u64.wrap (a_0 + b_0)) + carry)),c3_1,c3_2,c3_3)
 else
 go ((0:Int),(i64.wrap (i + (1:Int))),(u64.wrap ((u64.wrap (a_0 + b_0)) + carry)),c3_1,c3_2,c3_3)),
 (bif (decide ((u64.wrap (a_1 + b_1)) < a_1)) then
 go ((1:Int),(i64.wrap (i + (1:Int))),c3_0,(u64.wrap ((u64.wrap (a_1 + b_1)) + carry)),c3_2,c3_3)
 else
 bif (decide ((u64.wrap ((u64.wrap (a_1 + b_1)) + carry)) < (u64.wrap (a_1 + b_1)))) then
 go ((1:Int),(i64.wrap (i + (1:Int))),c3_0,(u64.wrap ((u64.wrap (a_1 + b_1)) + carry)),c3_2,c3_3)
 else
 go ((0:Int),(i64.wrap (i + (1:Int))),c3_0,(u64.wrap ((u64.wrap (a_1 + b_1)) + carry)),c3_2,c3_3)),
 (bif (decide ((u64.wrap (a_2 + b_2)) < a_2)) then
 go ((1:Int),(i64.wrap (i + (1:Int))),c3_0,c3_1,(u64.wrap ((u64.wrap (a_2 + b_2)) + carry)),c3_3)
 else
 bif (decide ((u64.wrap ((u64.wrap (a_2 + b_2)) + carry)) < (u64.wrap (a_2 + b_2)))) then
 go ((1:Int),(i64.wrap (i + (1:Int))),c3_0,c3_1,(u64.wrap ((u64.wrap (a_2 + b_2)) + carry)),c3_3)
 else
 go ((0:Int),(i64.wrap (i + (1:Int))),c3_0,c3_1,(u64.wrap ((u64.wrap (a_2 + b_2)) + carry)),c3_3)),
 (bif (decide ((u64.wrap (a_3 + b_3)) < a_3)) then
 go ((1:Int),(i64.wrap (i + (1:Int))),c3_0,c3_1,c3_2,(u64.wrap ((u64.wrap (a_3 + b_3)) + carry)))
 else
 bif (decide ((u64.wrap ((u64.wrap (a_3 + b_3)) + carry)) < (u64.wrap (a_3 + b_3)))) then
 go ((1:Int),(i64.wrap (i + (1:Int))),c3_0,c3_1,c3_2,(u64.wrap ((u64.wrap (a_3 + b_3)) + carry)))
 else
 go ((0:Int),(i64.wrap (i + (1:Int))),c3_0,c3_1,c3_2,(u64.wrap ((u64.wrap (a_3 + b_3)) + carry))))]
 else
 some (c3_0,c3_1,c3_2,c3_3)
def f108 (a_0:Int) (a_1:Int) (a_2:Int) (a_3:Int) (b_0:Int) (b_1:Int) (b_2:Int) (b_3:Int) : Option (Int×Int×Int×Int) :=
 bindF (loopF (fun go x=>f108_l1 a_0 a_1 a_2 a_3 b_0 b_1 b_2 b_3 go x.1 x.2.1 x.2.2.1 x.2.2.2.1 x.2.2.2.2.1 x.2.2.2.2.2) fuelN ((0:Int),(0:Int),(0:Int),(0:Int),(0:Int),(0:Int))) fun z3 =>
 some (z3.1,z3.2.1,z3.2.2.1,z3.2.2.2)
def C108 : Con where
 X := Int×Int×Int×Int×Int×Int×Int×Int
 Y := Int×Int×Int×Int
 e := 0
 args x := [.raw true [(.d T10 x.1),(.d T10 x.2.1),(.d T10 x.2.2.1),(.d T10 x.2.2.2.1)],.raw true [(.d T10 x.2.2.2.2.1),(.d T10 x.2.2.2.2.2.1),(.d T10 x.2.2.2.2.2.2.1),(.d T10 x.2.2.2.2.2.2.2)]]
 hin x := []
 F x := f108 x.1 x.2.1 x.2.2.1 x.2.2.2.1 x.2.2.2.2.1 x.2.2.2.2.2.1 x.2.2.2.2.2.2.1 x.2.2.2.2.2.2.2
 ret y := [.raw true [(.d T10 y.1),(.d T10 y.2.1),(.d T10 y.2.2.1),(.d T10 y.2.2.2)]]
 hout y := []
 nout := 0
theorem C108_vc (a_0:Int) (a_1:Int) (a_2:Int) (a_3:Int) (b_0:Int) (b_1:Int) (b_2:Int) (b_3:Int) (y : Int×Int×Int×Int) (hF : f108 a_0 a_1 a_2 a_3 b_0 b_1 b_2 b_3 = some y) : VC Tryz.f108 C108 (a_0,a_1,a_2,a_3,b_0,b_1,b_2,b_3) y := by
 unfold f108 at hF
 refine OL (OL (OL (OL (OL ?_))))
 obtain ⟨z3,hz3,hF⟩ := bindE hF
 refine loopI (Int×Int×Int×Int×Int×Int) (Int×Int×Int×Int) (fun x=>⟨[(2,P0 0 0),(3,P0 1 0),(4,P0 2 0),(5,P0 3 0),(6,.dat T10 x.1),(7,.dat T1 x.2.1)],[(0,.cells [(.d T10 a_0),(.d T10 a_1),(.d T10 a_2),(.d T10 a_3)]),(1,.cells [(.d T10 b_0),(.d T10 b_1),(.d T10 b_2),(.d T10 b_3)]),(2,.cells [(.d T10 (0:Int)),(.d T10 (0:Int)),(.d T10 (0:Int)),(.d T10 (0:Int))]),(3,.cells [(.d T10 x.2.2.1),(.d T10 x.2.2.2.1),(.d T10 x.2.2.2.2.1),(.d T10 x.2.2.2.2.2)])],4⟩) (fun z=>[(2,⟨[(4,P0 0 0),(5,P0 1 0)],[(0,.cells [(.d T10 (0:Int)),(.d T10 (0:Int)),(.d T10 (0:Int)),(.d T10 (0:Int))]),(1,.cells [(.d T10 z.1),(.d T10 z.2.1),(.d T10 z.2.2.1),(.d T10 z.2.2.2)])],2⟩)]) (loopF (fun go x=>f108_l1 a_0 a_1 a_2 a_3 b_0 b_1 b_2 b_3 go x.1 x.2.1 x.2.2.1 x.2.2.2.1 x.2.2.2.2.1 x.2.2.2.2.2)) fuelN ((0:Int),(0:Int),(0:Int),(0:Int),(0:Int),(0:Int)) z3 (AI hz3 (AI (E4 [(0,some 0),(1,some 1),(2,some 2),(3,some 3)] (R3 (AI (R4 TV) (R4 TV)))) (AI (fun _ _ h=>loopZ h) (AI (fun m=>curI (fun carry=>curI (fun i=>curI (fun c3_0=>curI (fun c3_1=>curI (fun c3_2=>fun c3_3 z hF=>?_)))))) ?_))))
 ·have hF : f108_l1 a_0 a_1 a_2 a_3 b_0 b_1 b_2 b_3 (loopF (fun go x=>f108_l1 a_0 a_1 a_2 a_3 b_0 b_1 b_2 b_3 go x.1 x.2.1 x.2.2.1 x.2.2.2.1 x.2.2.2.2.1 x.2.2.2.2.2) m) carry i c3_0 c3_1 c3_2 c3_3 = some z := hF
  unfold f108_l1 at hF
  refine OL (OL (condI hF (fun hF=>?_) (fun hF=>?_)))
  ·refine OL (OL (EI (.take 0 (.take 1 (.take 2 (.take 3 (.take 4 (.take 5 (.take 6 (.take 7 .done)))))))) (EI [] (EI [] (AI rfl (guardI hF (fun hF=>?_)))))))
   refine AI (fun hk4=>?_) ?_
   ·have hF := pickE hF hk4
    dsimp only [nthO] at hF
    refine AI (rangeE hk4 (by decide)) (AI (fun _=>?_) (AI (fun h=>absurd (hk4.symm.trans h) (by decide)) (AI (fun h=>absurd (hk4.symm.trans h) (by decide)) (AI (fun h=>absurd (hk4.symm.trans h) (by decide)) TV))))
    refine OL (OL (AI (rangeE hk4 (by decide)) (AI (fun _=>?_) (AI (fun h=>absurd (hk4.symm.trans h) (by decide)) (AI (fun h=>absurd (hk4.symm.trans h) (by decide)) (AI (fun h=>absurd (hk4.symm.trans h) (by decide)) TV))))))
    refine OL (OL (AI (rangeE hk4 (by decide)) (AI (fun _=>?_) (AI (fun h=>absurd (hk4.symm.trans h) (by decide)) (AI (fun h=>absurd (hk4.symm.trans h) (by decide)) (AI (fun h=>absurd (hk4.symm.trans h) (by decide)) TV))))))
    refine condN hF (fun hF=>?_) (fun hF=>?_)
    ·refine gdYF (gdYF (condF (condI hF (fun hF=>?_) (fun hF=>?_))))
     ·refine EI ((1:Int),(i64.wrap (i + (1:Int))),(u64.wrap ((u64.wrap (a_0 + b_0)) + carry)),c3_1,c3_2,c3_3) (AI hF (E4 [(0,some 0),(1,some 1),(2,some 2),(3,some 3)] (R3 (AI (R4 TV) (R4 TV)))))
     refine EI ((0:Int),(i64.wrap (i + (1:Int))),(u64.wrap ((u64.wrap (a_0 + b_0)) + carry)),c3_1,c3_2,c3_3) (AI hF (E4 [(0,some 0),(1,some 1),(2,some 2),(3,some 3)] (R3 (AI (R4 TV) (R4 TV)))))
    refine gdNF (gdNF (condT (condT (EI ((1:Int),(i64.wrap (i + (1:Int))),(u64.wrap ((u64.wrap (a_0 + b_0)) + carry)),c3_1,c3_2,c3_3) (AI hF (E4 [(0,some 0),(1,some 1),(2,some 2),(3,some 3)] (R3 (AI (R4 TV) (R4 TV)))))))))
   refine AI (fun hk4=>?_) ?_
   ·have hF := pickE hF hk4
    dsimp only [nthO] at hF
    refine AI (rangeE hk4 (by decide)) (AI (fun h=>absurd (hk4.symm.trans h) (by decide)) ?_)
    refine AI (fun _=>?_) (AI (fun h=>absurd (hk4.symm.trans h) (by decide)) (AI (fun h=>absurd (hk4.symm.trans h) (by decide)) TV))
    refine OL (OL (AI (rangeE hk4 (by decide)) (AI (fun h=>absurd (hk4.symm.trans h) (by decide)) ?_)))
    refine AI (fun _=>?_) (AI (fun h=>absurd (hk4.symm.trans h) (by decide)) (AI (fun h=>absurd (hk4.symm.trans h) (by decide)) TV))
    refine OL (OL (AI (rangeE hk4 (by decide)) (AI (fun h=>absurd (hk4.symm.trans h) (by decide)) ?_)))
    refine AI (fun _=>?_) (AI (fun h=>absurd (hk4.symm.trans h) (by decide)) (AI (fun h=>absurd (hk4.symm.trans h) (by decide)) TV))
    refine condN hF (fun hF=>?_) (fun hF=>?_)
    ·refine gdYF (gdYF (condF (condI hF (fun hF=>?_) (fun hF=>?_))))
     ·refine EI ((1:Int),(i64.wrap (i + (1:Int))),c3_0,(u64.wrap ((u64.wrap (a_1 + b_1)) + carry)),c3_2,c3_3) (AI hF (E4 [(0,some 0),(1,some 1),(2,some 2),(3,some 3)] (R3 (AI (R4 TV) (R4 TV)))))
     refine EI ((0:Int),(i64.wrap (i + (1:Int))),c3_0,(u64.wrap ((u64.wrap (a_1 + b_1)) + carry)),c3_2,c3_3) (AI hF (E4 [(0,some 0),(1,some 1),(2,some 2),(3,some 3)] (R3 (AI (R4 TV) (R4 TV)))))
    refine gdNF (gdNF (condT (condT (EI ((1:Int),(i64.wrap (i + (1:Int))),c3_0,(u64.wrap ((u64.wrap (a_1 + b_1)) + carry)),c3_2,c3_3) (AI hF (E4 [(0,some 0),(1,some 1),(2,some 2),(3,some 3)] (R3 (AI (R4 TV) (R4 TV)))))))))
   refine AI (fun hk4=>?_) ?_
   ·have hF := pickE hF hk4
    dsimp only [nthO] at hF
    refine AI (rangeE hk4 (by decide)) (AI (fun h=>absurd (hk4.symm.trans h) (by decide)) ?_)
    refine AI (fun h=>absurd (hk4.symm.trans h) (by decide)) ?_
    refine AI (fun _=>?_) (AI (fun h=>absurd (hk4.symm.trans h) (by decide)) TV)
    refine OL (OL (AI (rangeE hk4 (by decide)) (AI (fun h=>absurd (hk4.symm.trans h) (by decide)) ?_)))
    refine AI (fun h=>absurd (hk4.symm.trans h) (by decide)) ?_
    refine AI (fun _=>?_) (AI (fun h=>absurd (hk4.symm.trans h) (by decide)) TV)
    refine OL (OL (AI (rangeE hk4 (by decide)) (AI (fun h=>absurd (hk4.symm.trans h) (by decide)) ?_)))
    refine AI (fun h=>absurd (hk4.symm.trans h) (by decide)) ?_
    refine AI (fun _=>?_) (AI (fun h=>absurd (hk4.symm.trans h) (by decide)) TV)
    refine condN hF (fun hF=>?_) (fun hF=>?_)
    ·refine gdYF (gdYF (condF (condI hF (fun hF=>?_) (fun hF=>?_))))
     ·refine EI ((1:Int),(i64.wrap (i + (1:Int))),c3_0,c3_1,(u64.wrap ((u64.wrap (a_2 + b_2)) + carry)),c3_3) (AI hF (E4 [(0,some 0),(1,some 1),(2,some 2),(3,some 3)] (R3 (AI (R4 TV) (R4 TV)))))
     refine EI ((0:Int),(i64.wrap (i + (1:Int))),c3_0,c3_1,(u64.wrap ((u64.wrap (a_2 + b_2)) + carry)),c3_3) (AI hF (E4 [(0,some 0),(1,some 1),(2,some 2),(3,some 3)] (R3 (AI (R4 TV) (R4 TV)))))
    refine gdNF (gdNF (condT (condT (EI ((1:Int),(i64.wrap (i + (1:Int))),c3_0,c3_1,(u64.wrap ((u64.wrap (a_2 + b_2)) + carry)),c3_3) (AI hF (E4 [(0,some 0),(1,some 1),(2,some 2),(3,some 3)] (R3 (AI (R4 TV) (R4 TV)))))))))
   refine AI (fun hk4=>?_) TV
   have hF := pickE hF hk4
   dsimp only [nthO] at hF
   refine AI (rangeE hk4 (by decide)) (AI (fun h=>absurd (hk4.symm.trans h) (by decide)) ?_)
   refine AI (fun h=>absurd (hk4.symm.trans h) (by decide)) ?_
   refine AI (fun h=>absurd (hk4.symm.trans h) (by decide)) ?_
   refine AI (fun _=>?_) TV
   refine OL (OL (AI (rangeE hk4 (by decide)) (AI (fun h=>absurd (hk4.symm.trans h) (by decide)) ?_)))
   refine AI (fun h=>absurd (hk4.symm.trans h) (by decide)) ?_
   refine AI (fun h=>absurd (hk4.symm.trans h) (by decide)) ?_
   refine AI (fun _=>?_) TV
   refine OL (OL (AI (rangeE hk4 (by decide)) (AI (fun h=>absurd (hk4.symm.trans h) (by decide)) ?_)))
   refine AI (fun h=>absurd (hk4.symm.trans h) (by decide)) ?_
   refine AI (fun h=>absurd (hk4.symm.trans h) (by decide)) ?_
   refine AI (fun _=>?_) TV
   refine condN hF (fun hF=>?_) (fun hF=>?_)
   ·refine gdYF (gdYF (condF (condI hF (fun hF=>?_) (fun hF=>?_))))
    ·refine EI ((1:Int),(i64.wrap (i + (1:Int))),c3_0,c3_1,c3_2,(u64.wrap ((u64.wrap (a_3 + b_3)) + carry))) (AI hF (E4 [(0,some 0),(1,some 1),(2,some 2),(3,some 3)] (R3 (AI (R4 TV) (R4 TV)))))
    refine EI ((0:Int),(i64.wrap (i + (1:Int))),c3_0,c3_1,c3_2,(u64.wrap ((u64.wrap (a_3 + b_3)) + carry))) (AI hF (E4 [(0,some 0),(1,some 1),(2,some 2),(3,some 3)] (R3 (AI (R4 TV) (R4 TV)))))
   refine gdNF (gdNF (condT (condT (EI ((1:Int),(i64.wrap (i + (1:Int))),c3_0,c3_1,c3_2,(u64.wrap ((u64.wrap (a_3 + b_3)) + carry))) (AI hF (E4 [(0,some 0),(1,some 1),(2,some 2),(3,some 3)] (R3 (AI (R4 TV) (R4 TV)))))))))
  have hz := someE hF
  subst hz
  refine E4 [(0,some 2),(1,some 3)] (AI rfl (AI (R2 TV) (R2 TV)))
 refine AI (OL (OL ?_)) TV
 have hy := someE hF
 subst hy
 refine AI rfl (E4 [] (AI rfl (AI (AI rfl TV) TV)))
theorem C108_holds : C108.Holds Tryz.prog 108 := holds_of_vc tab_ok mixed (fn := Tryz.f108) (by kernel_rfl) rfl C108 (fun x y hF=>C108_vc x.1 x.2.1 x.2.2.1 x.2.2.2.1 x.2.2.2.2.1 x.2.2.2.2.2.1 x.2.2.2.2.2.2.1 x.2.2.2.2.2.2.2 y hF)
theorem f108_in : InP 108 := ⟨Tryz.f108,by kernel_rfl,by kernel_rfl,by kernel_rfl⟩
def f109_l1 (a_0:Int) (a_1:Int) (a_2:Int) (a_3:Int) (b_0:Int) (b_1:Int) (b_2:Int) (b_3:Int) (go : Int → Option (Sum Bool Unit)) (i:Int) : Option (Sum Bool Unit) :=
 bif (decide (i ≥ (0:Int))) then
 guardF (0 ≤ i ∧ i < (4:Int)) <|
 pickF i
 [(bif (a_0 != b_0) then
 some (Sum.inl (decide (a_0 < b_0)))
 else
 go (i64.wrap (i - (1:Int)))),
 (bif (a_1 != b_1) then
 some (Sum.inl (decide (a_1 < b_1)))
 else
 go (i64.wrap (i - (1:Int)))),
 (bif (a_2 != b_2) then
 some (Sum.inl (decide (a_2 < b_2)))
 else
 go (i64.wrap (i - (1:Int)))),
 (bif (a_3 != b_3) then
 some (Sum.inl (decide (a_3 < b_3)))
 else
 go (i64.wrap (i - (1:Int))))]
 else
 some (Sum.inr ())
def f109 (a_0:Int) (a_1:Int) (a_2:Int) (a_3:Int) (b_0:Int) (b_1:Int) (b_2:Int) (b_3:Int) : Option Bool :=
 bindF (loopF (fun go x=>f109_l1 a_0 a_1 a_2 a_3 b_0 b_1 b_2 b_3 go x) fuelN (3:Int)) fun z2 =>
 sumF z2 (fun z2a =>
 some z2a) (fun z2b =>
 some false)
def C109 : Con where
 X := Int×Int×Int×Int×Int×Int×Int×Int
 Y := Bool
 e := 0
 args x := [.raw true [(.d T10 x.1),(.d T10 x.2.1),(.d T10 x.2.2.1),(.d T10 x.2.2.2.1)],.raw true [(.d T10 x.2.2.2.2.1),(.d T10 x.2.2.2.2.2.1),(.d T10 x.2.2.2.2.2.2.1),(.d T10 x.2.2.2.2.2.2.2)]]
 hin x := []
 F x := f109 x.1 x.2.1 x.2.2.1 x.2.2.2.1 x.2.2.2.2.1 x.2.2.2.2.2.1 x.2.2.2.2.2.2.1 x.2.2.2.2.2.2.2
 ret y := [.dat .bool y]
 hout y := []
 nout := 0
theorem C109_vc (a_0:Int) (a_1:Int) (a_2:Int) (a_3:Int) (b_0:Int) (b_1:Int) (b_2:Int) (b_3:Int) (y : Bool) (hF : f109 a_0 a_1 a_2 a_3 b_0 b_1 b_2 b_3 = some y) : VC Tryz.f109 C109 (a_0,a_1,a_2,a_3,b_0,b_1,b_2,b_3) y := by
 unfold f109 at hF
 refine OL (OL (OL ?_))
 obtain ⟨z2,hz2,hF⟩ := bindE hF
 refine loopI Int (Sum Bool Unit) (fun x=>⟨[(2,P0 0 0),(3,P0 1 0),(5,.dat T1 x)],[(0,.cells [(.d T10 a_0),(.d T10 a_1),(.d T10 a_2),(.d T10 a_3)]),(1,.cells [(.d T10 b_0),(.d T10 b_1),(.d T10 b_2),(.d T10 b_3)])],2⟩) (fun z=>Sum.elim (fun za=>[(1,⟨[(4,.dat .bool za)],[],0⟩)]) (fun zb=>[(2,⟨[],[],0⟩)]) z) (loopF (fun go x=>f109_l1 a_0 a_1 a_2 a_3 b_0 b_1 b_2 b_3 go x)) fuelN (3:Int) z2 (AI hz2 (AI (E4 [(0,some 0),(1,some 1)] (R2 (AI (R2 TV) (R2 TV)))) (AI (fun _ _ h=>loopZ h) (AI (fun m=>fun i z hF=>?_) ?_))))
 ·have hF : f109_l1 a_0 a_1 a_2 a_3 b_0 b_1 b_2 b_3 (loopF (fun go x=>f109_l1 a_0 a_1 a_2 a_3 b_0 b_1 b_2 b_3 go x) m) i = some z := hF
  unfold f109_l1 at hF
  refine OL (OL (condI hF (fun hF=>?_) (fun hF=>?_)))
  ·refine OL (OL (EI (.take 0 (.take 1 (.take 2 (.take 3 (.take 4 (.take 5 (.take 6 .done))))))) (EI [] (EI [] (AI rfl (guardI hF (fun hF=>?_)))))))
   refine AI (fun hk3=>?_) ?_
   ·have hF := pickE hF hk3
    dsimp only [nthO] at hF
    refine AI (rangeE hk3 (by decide)) (AI (fun _=>?_) (AI (fun h=>absurd (hk3.symm.trans h) (by decide)) (AI (fun h=>absurd (hk3.symm.trans h) (by decide)) (AI (fun h=>absurd (hk3.symm.trans h) (by decide)) TV))))
    refine condI hF (fun hF=>?_) (fun hF=>?_)
    ·refine OL (EI (.take 0 (.take 1 (.take 2 (.take 3 (.take 4 (.take 5 (.take 6 (.take 7 .done)))))))) (EI [] (EI [] (AI rfl (AI (rangeE hk3 (by decide)) (AI (fun _=>?_) (AI (fun h=>absurd (hk3.symm.trans h) (by decide)) (AI (fun h=>absurd (hk3.symm.trans h) (by decide)) (AI (fun h=>absurd (hk3.symm.trans h) (by decide)) TV)))))))))
     refine AI (rangeE hk3 (by decide)) (AI (fun _=>?_) (AI (fun h=>absurd (hk3.symm.trans h) (by decide)) (AI (fun h=>absurd (hk3.symm.trans h) (by decide)) (AI (fun h=>absurd (hk3.symm.trans h) (by decide)) TV))))
     have hz := someE hF
     subst hz
     refine E4 [] (R2 (AI TV TV))
    refine EI (i64.wrap (i - (1:Int))) (AI hF (E4 [(0,some 0),(1,some 1)] (R2 (AI (R2 TV) (R2 TV)))))
   refine AI (fun hk3=>?_) ?_
   ·have hF := pickE hF hk3
    dsimp only [nthO] at hF
    refine AI (rangeE hk3 (by decide)) (AI (fun h=>absurd (hk3.symm.trans h) (by decide)) ?_)
    refine AI (fun _=>?_) (AI (fun h=>absurd (hk3.symm.trans h) (by decide)) (AI (fun h=>absurd (hk3.symm.trans h) (by decide)) TV))
    refine condI hF (fun hF=>?_) (fun hF=>?_)
    ·refine OL (EI (.take 0 (.take 1 (.take 2 (.take 3 (.take 4 (.take 5 (.take 6 (.take 7 .done)))))))) (EI [] (EI [] (AI rfl (AI (rangeE hk3 (by decide)) (AI (fun h=>absurd (hk3.symm.trans h) (by decide)) ?_))))))
     refine AI (fun _=>?_) (AI (fun h=>absurd (hk3.symm.trans h) (by decide)) (AI (fun h=>absurd (hk3.symm.trans h) (by decide)) TV))
     refine AI (rangeE hk3 (by decide)) (AI (fun h=>absurd (hk3.symm.trans h) (by decide)) ?_)
     refine AI (fun _=>?_) (AI (fun h=>absurd (hk3.symm.trans h) (by decide)) (AI (fun h=>absurd (hk3.symm.trans h) (by decide)) TV))
     have hz := someE hF
     subst hz
     refine E4 [] (R2 (AI TV TV))
    refine EI (i64.wrap (i - (1:Int))) (AI hF (E4 [(0,some 0),(1,some 1)] (R2 (AI (R2 TV) (R2 TV)))))
   refine AI (fun hk3=>?_) ?_
   ·have hF := pickE hF hk3
    dsimp only [nthO] at hF
    refine AI (rangeE hk3 (by decide)) (AI (fun h=>absurd (hk3.symm.trans h) (by decide)) ?_)
    refine AI (fun h=>absurd (hk3.symm.trans h) (by decide)) ?_
    refine AI (fun _=>?_) (AI (fun h=>absurd (hk3.symm.trans h) (by decide)) TV)
    refine condI hF (fun hF=>?_) (fun hF=>?_)
    ·refine OL (EI (.take 0 (.take 1 (.take 2 (.take 3 (.take 4 (.take 5 (.take 6 (.take 7 .done)))))))) (EI [] (EI [] (AI rfl (AI (rangeE hk3 (by decide)) (AI (fun h=>absurd (hk3.symm.trans h) (by decide)) ?_))))))
     refine AI (fun h=>absurd (hk3.symm.trans h) (by decide)) ?_
     refine AI (fun _=>?_) (AI (fun h=>absurd (hk3.symm.trans h) (by decide)) TV)
     refine AI (rangeE hk3 (by decide)) (AI (fun h=>absurd (hk3.symm.trans h) (by decide)) ?_)
     refine AI (fun h=>absurd (hk3.symm.trans h) (by decide)) ?_
     refine AI (fun _=>?_) (AI (fun h=>absurd (hk3.symm.trans h) (by decide)) TV)
     have hz := someE hF
     subst hz
     refine E4 [] (R2 (AI TV TV))
    refine EI (i64.wrap (i - (1:Int))) (AI hF (E4 [(0,some 0),(1,some 1)] (R2 (AI (R2 TV) (R2 TV)))))
   refine AI (fun hk3=>?_) TV
   have hF := pickE hF hk3
   dsimp only [nthO] at hF
   refine AI (rangeE hk3 (by decide)) (AI (fun h=>absurd (hk3.symm.trans h) (by decide)) ?_)
   refine AI (fun h=>absurd (hk3.symm.trans h) (by decide)) ?_
   refine AI (fun h=>absurd (hk3.symm.trans h) (by decide)) ?_
   refine AI (fun _=>?_) TV
   refine condI hF (fun hF=>?_) (fun hF=>?_)
   ·refine OL (EI (.take 0 (.take 1 (.take 2 (.take 3 (.take 4 (.take 5 (.take 6 (.take 7 .done)))))))) (EI [] (EI [] (AI rfl (AI (rangeE hk3 (by decide)) (AI (fun h=>absurd (hk3.symm.trans h) (by decide)) ?_))))))
    refine AI (fun h=>absurd (hk3.symm.trans h) (by decide)) ?_
    refine AI (fun h=>absurd (hk3.symm.trans h) (by decide)) ?_
    refine AI (fun _=>?_) TV
    refine AI (rangeE hk3 (by decide)) (AI (fun h=>absurd (hk3.symm.trans h) (by decide)) ?_)
    refine AI (fun h=>absurd (hk3.symm.trans h) (by decide)) ?_
    refine AI (fun h=>absurd (hk3.symm.trans h) (by decide)) ?_
    refine AI (fun _=>?_) TV
    have hz := someE hF
    subst hz
    refine E4 [] (R2 (AI TV TV))
   refine EI (i64.wrap (i - (1:Int))) (AI hF (E4 [(0,some 0),(1,some 1)] (R2 (AI (R2 TV) (R2 TV)))))
  have hz := someE hF
  subst hz
  refine E4 [] (AI rfl (AI TV TV))
 rcases z2 with z2a | z2b
 ·dsimp only [sumF] at hF
  refine AI ?_ TV
  have hy := someE hF
  subst hy
  refine AI rfl (E4 [] (R2 (AI TV TV)))
 dsimp only [sumF] at hF
 refine AI (OL ?_) TV
 have hy := someE hF
 subst hy
 refine AI rfl (E4 [] (R2 (AI TV TV)))
theorem C109_holds : C109.Holds Tryz.prog 109 := holds_of_vc tab_ok mixed (fn := Tryz.f109) (by kernel_rfl) rfl C109 (fun x y hF=>C109_vc x.1 x.2.1 x.2.2.1 x.2.2.2.1 x.2.2.2.2.1 x.2.2.2.2.2.1 x.2.2.2.2.2.2.1 x.2.2.2.2.2.2.2 y hF)
theorem f109_in : InP 109 := ⟨Tryz.f109,by kernel_rfl,by kernel_rfl,by kernel_rfl⟩
def f110_l1 (a_0:Int) (a_1:Int) (a_2:Int) (a_3:Int) (b_0:Int) (b_1:Int) (b_2:Int) (b_3:Int) (go : (Int×Int×Int×Int×Int×Int) → Option (Int×Int×Int×Int)) (borrow:Int) (i:Int) (c3_0:Int) (c3_1:Int) (c3_2:Int) (c3_3:Int) : Option (Int×Int×Int×Int) :=
 bif (decide (i < (4:Int))) then
 guardF (0 ≤ i ∧ i < (4:Int)) <|
 pickF i
 [(bif (decide (a_0 < b_0)) then
 go ((1:Int),(i64.wrap (i + (1:Int))),(u64.wrap ((u64.wrap (a_0 - b_0)) - borrow)),c3_1,c3_2,c3_3)
 else
 bif (decide ((u64.wrap (a_0 - b_0)) < borrow)) then
 go ((1:Int),(i64.wrap (i + (1:Int))),(u64.wrap ((u64.wrap (a_0 - b_0)) - borrow)),c3_1,c3_2,c3_3)
 else
 go ((0:Int),(i64.wrap (i + (1:Int))),(u64.wrap ((u64.wrap (a_0 - b_0)) - borrow)),c3_1,c3_2,c3_3)),
 (bif (decide (a_1 < b_1)) then
 go ((1:Int),(i64.wrap (i + (1:Int))),c3_0,(u64.wrap ((u64.wrap (a_1 - b_1)) - borrow)),c3_2,c3_3)
 else
 bif (decide ((u64.wrap (a_1 - b_1)) < borrow)) then
 go ((1:Int),(i64.wrap (i + (1:Int))),c3_0,(u64.wrap ((u64.wrap (a_1 - b_1)) - borrow)),c3_2,c3_3)
 else
 go ((0:Int),(i64.wrap (i + (1:Int))),c3_0,(u64.wrap ((u64.wrap (a_1 - b_1)) - borrow)),c3_2,c3_3)),
 (bif (decide (a_2 < b_2)) then
 go ((1:Int),(i64.wrap (i + (1:Int))),c3_0,c3_1,(u64.wrap ((u64.wrap (a_2 - b_2)) - borrow)),c3_3)
 else
 bif (decide ((u64.wrap (a_2 - b_2)) < borrow)) then
 go ((1:Int),(i64.wrap (i + (1:Int))),c3_0,c3_1,(u64.wrap ((u64.wrap (a_2 - b_2)) - borrow)),c3_3)
 else
 go ((0:Int),(i64.wrap (i + (1:Int))),c3_0,c3_1,(u64.wrap ((u64.wrap (a_2 - b_2)) - borrow)),c3_3)),
 (bif (decide (a_3 < b_3)) then
 go ((1:Int),(i64.wrap (i + (1:Int))),c3_0,c3_1,c3_2,(u64.wrap ((u64.wrap (a_3 - b_3)) - borrow)))
 else
 bif (decide ((u64.wrap (a_3 - b_3)) < borrow)) then
 go ((1:Int),(i64.wrap (i + (1:Int))),c3_0,c3_1,c3_2,(u64.wrap ((u64.wrap (a_3 - b_3)) - borrow)))
 else
 go ((0:Int),(i64.wrap (i + (1:Int))),c3_0,c3_1,c3_2,(u64.wrap ((u64.wrap (a_3 - b_3)) - borrow))))]
 else
 some (c3_0,c3_1,c3_2,c3_3)
def f110 (a_0:Int) (a_1:Int) (a_2:Int) (a_3:Int) (b_0:Int) (b_1:Int) (b_2:Int) (b_3:Int) : Option (Int×Int×Int×Int) :=
 bindF (loopF (fun go x=>f110_l1 a_0 a_1 a_2 a_3 b_0 b_1 b_2 b_3 go x.1 x.2.1 x.2.2.1 x.2.2.2.1 x.2.2.2.2.1 x.2.2.2.2.2) fuelN ((0:Int),(0:Int),(0:Int),(0:Int),(0:Int),(0:Int))) fun z3 =>
 some (z3.1,z3.2.1,z3.2.2.1,z3.2.2.2)
def C110 : Con where
 X := Int×Int×Int×Int×Int×Int×Int×Int
 Y := Int×Int×Int×Int
 e := 0
 args x := [.raw true [(.d T10 x.1),(.d T10 x.2.1),(.d T10 x.2.2.1),(.d T10 x.2.2.2.1)],.raw true [(.d T10 x.2.2.2.2.1),(.d T10 x.2.2.2.2.2.1),(.d T10 x.2.2.2.2.2.2.1),(.d T10 x.2.2.2.2.2.2.2)]]
 hin x := []
 F x := f110 x.1 x.2.1 x.2.2.1 x.2.2.2.1 x.2.2.2.2.1 x.2.2.2.2.2.1 x.2.2.2.2.2.2.1 x.2.2.2.2.2.2.2
 ret y := [.raw true [(.d T10 y.1),(.d T10 y.2.1),(.d T10 y.2.2.1),(.d T10 y.2.2.2)]]
 hout y := []
 nout := 0
theorem C110_vc (a_0:Int) (a_1:Int) (a_2:Int) (a_3:Int) (b_0:Int) (b_1:Int) (b_2:Int) (b_3:Int) (y : Int×Int×Int×Int) (hF : f110 a_0 a_1 a_2 a_3 b_0 b_1 b_2 b_3 = some y) : VC Tryz.f110 C110 (a_0,a_1,a_2,a_3,b_0,b_1,b_2,b_3) y := by
 unfold f110 at hF
 refine OL (OL (OL (OL (OL ?_))))
 obtain ⟨z3,hz3,hF⟩ := bindE hF
 refine loopI (Int×Int×Int×Int×Int×Int) (Int×Int×Int×Int) (fun x=>⟨[(2,P0 0 0),(3,P0 1 0),(4,P0 2 0),(5,P0 3 0),(6,.dat T10 x.1),(7,.dat T1 x.2.1)],[(0,.cells [(.d T10 a_0),(.d T10 a_1),(.d T10 a_2),(.d T10 a_3)]),(1,.cells [(.d T10 b_0),(.d T10 b_1),(.d T10 b_2),(.d T10 b_3)]),(2,.cells [(.d T10 (0:Int)),(.d T10 (0:Int)),(.d T10 (0:Int)),(.d T10 (0:Int))]),(3,.cells [(.d T10 x.2.2.1),(.d T10 x.2.2.2.1),(.d T10 x.2.2.2.2.1),(.d T10 x.2.2.2.2.2)])],4⟩) (fun z=>[(2,⟨[(4,P0 0 0),(5,P0 1 0)],[(0,.cells [(.d T10 (0:Int)),(.d T10 (0:Int)),(.d T10 (0:Int)),(.d T10 (0:Int))]),(1,.cells [(.d T10 z.1),(.d T10 z.2.1),(.d T10 z.2.2.1),(.d T10 z.2.2.2)])],2⟩)]) (loopF (fun go x=>f110_l1 a_0 a_1 a_2 a_3 b_0 b_1 b_2 b_3 go x.1 x.2.1 x.2.2.1 x.2.2.2.1 x.2.2.2.2.1 x.2.2.2.2.2)) fuelN ((0:Int),(0:Int),(0:Int),(0:Int),(0:Int),(0:Int)) z3 (AI hz3 (AI (E4 [(0,some 0),(1,some 1),(2,some 2),(3,some 3)] (R3 (AI (R4 TV) (R4 TV)))) (AI (fun _ _ h=>loopZ h) (AI (fun m=>curI (fun borrow=>curI (fun i=>curI (fun c3_0=>curI (fun c3_1=>curI (fun c3_2=>fun c3_3 z hF=>?_)))))) ?_))))
 ·have hF : f110_l1 a_0 a_1 a_2 a_3 b_0 b_1 b_2 b_3 (loopF (fun go x=>f110_l1 a_0 a_1 a_2 a_3 b_0 b_1 b_2 b_3 go x.1 x.2.1 x.2.2.1 x.2.2.2.1 x.2.2.2.2.1 x.2.2.2.2.2) m) borrow i c3_0 c3_1 c3_2 c3_3 = some z := hF
  unfold f110_l1 at hF
  refine OL (OL (condI hF (fun hF=>?_) (fun hF=>?_)))
  ·refine OL (OL (EI (.take 0 (.take 1 (.take 2 (.take 3 (.take 4 (.take 5 (.take 6 (.take 7 .done)))))))) (EI [] (EI [] (AI rfl (guardI hF (fun hF=>?_)))))))
   refine AI (fun hk4=>?_) ?_
   ·have hF := pickE hF hk4
    dsimp only [nthO] at hF
    refine AI (rangeE hk4 (by decide)) (AI (fun _=>?_) (AI (fun h=>absurd (hk4.symm.trans h) (by decide)) (AI (fun h=>absurd (hk4.symm.trans h) (by decide)) (AI (fun h=>absurd (hk4.symm.trans h) (by decide)) TV))))
    refine OL (OL (AI (rangeE hk4 (by decide)) (AI (fun _=>?_) (AI (fun h=>absurd (hk4.symm.trans h) (by decide)) (AI (fun h=>absurd (hk4.symm.trans h) (by decide)) (AI (fun h=>absurd (hk4.symm.trans h) (by decide)) TV))))))
    refine OL (OL (EI (.take 0 (.take 1 (.take 2 (.take 3 (.take 4 (.take 5 (.take 6 (.take 7 (.take 8 (.take 9 (.take 10 (.take 11 .done)))))))))))) (EI [] (EI [] (AI rfl (AI (rangeE hk4 (by decide)) (AI (fun _=>?_) (AI (fun h=>absurd (hk4.symm.trans h) (by decide)) (AI (fun h=>absurd (hk4.symm.trans h) (by decide)) (AI (fun h=>absurd (hk4.symm.trans h) (by decide)) TV))))))))))
    refine AI (rangeE hk4 (by decide)) (AI (fun _=>?_) (AI (fun h=>absurd (hk4.symm.trans h) (by decide)) (AI (fun h=>absurd (hk4.symm.trans h) (by decide)) (AI (fun h=>absurd (hk4.symm.trans h) (by decide)) TV))))
    refine condN hF (fun hF=>?_) (fun hF=>?_)
    ·refine gdYF (gdYF (condF (condI hF (fun hF=>?_) (fun hF=>?_))))
     ·refine EI ((1:Int),(i64.wrap (i + (1:Int))),(u64.wrap ((u64.wrap (a_0 - b_0)) - borrow)),c3_1,c3_2,c3_3) (AI hF (E4 [(0,some 0),(1,some 1),(2,some 2),(3,some 3)] (R3 (AI (R4 TV) (R4 TV)))))
     refine EI ((0:Int),(i64.wrap (i + (1:Int))),(u64.wrap ((u64.wrap (a_0 - b_0)) - borrow)),c3_1,c3_2,c3_3) (AI hF (E4 [(0,some 0),(1,some 1),(2,some 2),(3,some 3)] (R3 (AI (R4 TV) (R4 TV)))))
    refine gdNF (gdNF (condT (condT (EI ((1:Int),(i64.wrap (i + (1:Int))),(u64.wrap ((u64.wrap (a_0 - b_0)) - borrow)),c3_1,c3_2,c3_3) (AI hF (E4 [(0,some 0),(1,some 1),(2,some 2),(3,some 3)] (R3 (AI (R4 TV) (R4 TV)))))))))
   refine AI (fun hk4=>?_) ?_
   ·have hF := pickE hF hk4
    dsimp only [nthO] at hF
    refine AI (rangeE hk4 (by decide)) (AI (fun h=>absurd (hk4.symm.trans h) (by decide)) ?_)
    refine AI (fun _=>?_) (AI (fun h=>absurd (hk4.symm.trans h) (by decide)) (AI (fun h=>absurd (hk4.symm.trans h) (by decide)) TV))
    refine OL (OL (AI (rangeE hk4 (by decide)) (AI (fun h=>absurd (hk4.symm.trans h) (by decide)) ?_)))
    refine AI (fun _=>?_) (AI (fun h=>absurd (hk4.symm.trans h) (by decide)) (AI (fun h=>absurd (hk4.symm.trans h) (by decide)) TV))
    refine OL (OL (EI (.take 0 (.take 1 (.take 2 (.take 3 (.take 4 (.take 5 (.take 6 (.take 7 (.take 8 (.take 9 (.take 10 (.take 11 .done)))))))))))) (EI [] (EI [] (AI rfl (AI (rangeE hk4 (by decide)) (AI (fun h=>absurd (hk4.symm.trans h) (by decide)) ?_)))))))
    refine AI (fun _=>?_) (AI (fun h=>absurd (hk4.symm.trans h) (by decide)) (AI (fun h=>absurd (hk4.symm.trans h) (by decide)) TV))
    refine AI (rangeE hk4 (by decide)) (AI (fun h=>absurd (hk4.symm.trans h) (by decide)) ?_)
    refine AI (fun _=>?_) (AI (fun h=>absurd (hk4.symm.trans h) (by decide)) (AI (fun h=>absurd (hk4.symm.trans h) (by decide)) TV))
    refine condN hF (fun hF=>?_) (fun hF=>?_)
    ·refine gdYF (gdYF (condF (condI hF (fun hF=>?_) (fun hF=>?_))))
     ·refine EI ((1:Int),(i64.wrap (i + (1:Int))),c3_0,(u64.wrap ((u64.wrap (a_1 - b_1)) - borrow)),c3_2,c3_3) (AI hF (E4 [(0,some 0),(1,some 1),(2,some 2),(3,some 3)] (R3 (AI (R4 TV) (R4 TV)))))
     refine EI ((0:Int),(i64.wrap (i + (1:Int))),c3_0,(u64.wrap ((u64.wrap (a_1 - b_1)) - borrow)),c3_2,c3_3) (AI hF (E4 [(0,some 0),(1,some 1),(2,some 2),(3,some 3)] (R3 (AI (R4 TV) (R4 TV)))))
    refine gdNF (gdNF (condT (condT (EI ((1:Int),(i64.wrap (i + (1:Int))),c3_0,(u64.wrap ((u64.wrap (a_1 - b_1)) - borrow)),c3_2,c3_3) (AI hF (E4 [(0,some 0),(1,some 1),(2,some 2),(3,some 3)] (R3 (AI (R4 TV) (R4 TV)))))))))
   refine AI (fun hk4=>?_) ?_
   ·have hF := pickE hF hk4
    dsimp only [nthO] at hF
    refine AI (rangeE hk4 (by decide)) (AI (fun h=>absurd (hk4.symm.trans h) (by decide)) ?_)
    refine AI (fun h=>absurd (hk4.symm.trans h) (by decide)) ?_
    refine AI (fun _=>?_) (AI (fun h=>absurd (hk4.symm.trans h) (by decide)) TV)
    refine OL (OL (AI (rangeE hk4 (by decide)) (AI (fun h=>absurd (hk4.symm.trans h) (by decide)) ?_)))
    refine AI (fun h=>absurd (hk4.symm.trans h) (by decide)) ?_
    refine AI (fun _=>?_) (AI (fun h=>absurd (hk4.symm.trans h) (by decide)) TV)
    refine OL (OL (EI (.take 0 (.take 1 (.take 2 (.take 3 (.take 4 (.take 5 (.take 6 (.take 7 (.take 8 (.take 9 (.take 10 (.take 11 .done)))))))))))) (EI [] (EI [] (AI rfl (AI (rangeE hk4 (by decide)) (AI (fun h=>absurd (hk4.symm.trans h) (by decide)) ?_)))))))
    refine AI (fun h=>absurd (hk4.symm.trans h) (by decide)) ?_
    refine AI (fun _=>?_) (AI (fun h=>absurd (hk4.symm.trans h) (by decide)) TV)
    refine AI (rangeE hk4 (by decide)) (AI (fun h=>absurd (hk4.symm.trans h) (by decide)) ?_)
    refine AI (fun h=>absurd (hk4.symm.trans h) (by decide)) ?_
    refine AI (fun _=>?_) (AI (fun h=>absurd (hk4.symm.trans h) (by decide)) TV)
    refine condN hF (fun hF=>?_) (fun hF=>?_)
    ·refine gdYF (gdYF (condF (condI hF (fun hF=>?_) (fun hF=>?_))))
     ·refine EI ((1:Int),(i64.wrap (i + (1:Int))),c3_0,c3_1,(u64.wrap ((u64.wrap (a_2 - b_2)) - borrow)),c3_3) (AI hF (E4 [(0,some 0),(1,some 1),(2,some 2),(3,some 3)] (R3 (AI (R4 TV) (R4 TV)))))
     refine EI ((0:Int),(i64.wrap (i + (1:Int))),c3_0,c3_1,(u64.wrap ((u64.wrap (a_2 - b_2)) - borrow)),c3_3) (AI hF (E4 [(0,some 0),(1,some 1),(2,some 2),(3,some 3)] (R3 (AI (R4 TV) (R4 TV)))))
    refine gdNF (gdNF (condT (condT (EI ((1:Int),(i64.wrap (i + (1:Int))),c3_0,c3_1,(u64.wrap ((u64.wrap (a_2 - b_2)) - borrow)),c3_3) (AI hF (E4 [(0,some 0),(1,some 1),(2,some 2),(3,some 3)] (R3 (AI (R4 TV) (R4 TV)))))))))
   refine AI (fun hk4=>?_) TV
   have hF := pickE hF hk4
   dsimp only [nthO] at hF
   refine AI (rangeE hk4 (by decide)) (AI (fun h=>absurd (hk4.symm.trans h) (by decide)) ?_)
   refine AI (fun h=>absurd (hk4.symm.trans h) (by decide)) ?_
   refine AI (fun h=>absurd (hk4.symm.trans h) (by decide)) ?_
   refine AI (fun _=>?_) TV
   refine OL (OL (AI (rangeE hk4 (by decide)) (AI (fun h=>absurd (hk4.symm.trans h) (by decide)) ?_)))
   refine AI (fun h=>absurd (hk4.symm.trans h) (by decide)) ?_
   refine AI (fun h=>absurd (hk4.symm.trans h) (by decide)) ?_
   refine AI (fun _=>?_) TV
   refine OL (OL (EI (.take 0 (.take 1 (.take 2 (.take 3 (.take 4 (.take 5 (.take 6 (.take 7 (.take 8 (.take 9 (.take 10 (.take 11 .done)))))))))))) (EI [] (EI [] (AI rfl (AI (rangeE hk4 (by decide)) (AI (fun h=>absurd (hk4.symm.trans h) (by decide)) ?_)))))))
   refine AI (fun h=>absurd (hk4.symm.trans h) (by decide)) ?_
   refine AI (fun h=>absurd (hk4.symm.trans h) (by decide)) ?_
   refine AI (fun _=>?_) TV
   refine AI (rangeE hk4 (by decide)) (AI (fun h=>absurd (hk4.symm.trans h) (by decide)) ?_)
   refine AI (fun h=>absurd (hk4.symm.trans h) (by decide)) ?_
   refine AI (fun h=>absurd (hk4.symm.trans h) (by decide)) ?_
   refine AI (fun _=>?_) TV
   refine condN hF (fun hF=>?_) (fun hF=>?_)
   ·refine gdYF (gdYF (condF (condI hF (fun hF=>?_) (fun hF=>?_))))
    ·refine EI ((1:Int),(i64.wrap (i + (1:Int))),c3_0,c3_1,c3_2,(u64.wrap ((u64.wrap (a_3 - b_3)) - borrow))) (AI hF (E4 [(0,some 0),(1,some 1),(2,some 2),(3,some 3)] (R3 (AI (R4 TV) (R4 TV)))))
    refine EI ((0:Int),(i64.wrap (i + (1:Int))),c3_0,c3_1,c3_2,(u64.wrap ((u64.wrap (a_3 - b_3)) - borrow))) (AI hF (E4 [(0,some 0),(1,some 1),(2,some 2),(3,some 3)] (R3 (AI (R4 TV) (R4 TV)))))
   refine gdNF (gdNF (condT (condT (EI ((1:Int),(i64.wrap (i + (1:Int))),c3_0,c3_1,c3_2,(u64.wrap ((u64.wrap (a_3 - b_3)) - borrow))) (AI hF (E4 [(0,some 0),(1,some 1),(2,some 2),(3,some 3)] (R3 (AI (R4 TV) (R4 TV)))))))))
  have hz := someE hF
  subst hz
  refine E4 [(0,some 2),(1,some 3)] (AI rfl (AI (R2 TV) (R2 TV)))
 refine AI (OL (OL ?_)) TV
 have hy := someE hF
 subst hy
 refine AI rfl (E4 [] (AI rfl (AI (AI rfl TV) TV)))
theorem C110_holds : C110.Holds Tryz.prog 110 := holds_of_vc tab_ok mixed (fn := Tryz.f110) (by kernel_rfl) rfl C110 (fun x y hF=>C110_vc x.1 x.2.1 x.2.2.1 x.2.2.2.1 x.2.2.2.2.1 x.2.2.2.2.2.1 x.2.2.2.2.2.2.1 x.2.2.2.2.2.2.2 y hF)
theorem f110_in : InP 110 := ⟨Tryz.f110,by kernel_rfl,by kernel_rfl,by kernel_rfl⟩
def f82 (a_Neg : Bool) (a_M_0:Int) (a_M_1:Int) (a_M_2:Int) (a_M_3:Int) (b_Neg : Bool) (b_M_0:Int) (b_M_1:Int) (b_M_2:Int) (b_M_3:Int) : Option (Bool×Int×Int×Int×Int) :=
 bif (a_Neg == b_Neg) then
 bindF (f108 a_M_0 a_M_1 a_M_2 a_M_3 b_M_0 b_M_1 b_M_2 b_M_3) fun q2_6 =>
 some (a_Neg,q2_6.1,q2_6.2.1,q2_6.2.2.1,q2_6.2.2.2)
 else
 bindF (f109 a_M_0 a_M_1 a_M_2 a_M_3 b_M_0 b_M_1 b_M_2 b_M_3) fun q2_8 =>
 bif q2_8 then
 bindF (f110 b_M_0 b_M_1 b_M_2 b_M_3 a_M_0 a_M_1 a_M_2 a_M_3) fun q4_6 =>
 some (b_Neg,q4_6.1,q4_6.2.1,q4_6.2.2.1,q4_6.2.2.2)
 else
 bindF (f110 a_M_0 a_M_1 a_M_2 a_M_3 b_M_0 b_M_1 b_M_2 b_M_3) fun q5_6 =>
 some (a_Neg,q5_6.1,q5_6.2.1,q5_6.2.2.1,q5_6.2.2.2)
def C82 : Con where
 X := Bool×Int×Int×Int×Int×Bool×Int×Int×Int×Int
 Y := Bool×Int×Int×Int×Int
 e := 0
 args x := [.raw true [(.d .bool x.1),(.d T10 x.2.1),(.d T10 x.2.2.1),(.d T10 x.2.2.2.1),(.d T10 x.2.2.2.2.1)],.raw true [(.d .bool x.2.2.2.2.2.1),(.d T10 x.2.2.2.2.2.2.1),(.d T10 x.2.2.2.2.2.2.2.1),(.d T10 x.2.2.2.2.2.2.2.2.1),(.d T10 x.2.2.2.2.2.2.2.2.2)]]
 hin x := []
 F x := f82 x.1 x.2.1 x.2.2.1 x.2.2.2.1 x.2.2.2.2.1 x.2.2.2.2.2.1 x.2.2.2.2.2.2.1 x.2.2.2.2.2.2.2.1 x.2.2.2.2.2.2.2.2.1 x.2.2.2.2.2.2.2.2.2
 ret y := [.raw true [(.d .bool y.1),(.d T10 y.2.1),(.d T10 y.2.2.1),(.d T10 y.2.2.2.1),(.d T10 y.2.2.2.2)]]
 hout y := []
 nout := 0
theorem C82_vc (a_Neg : Bool) (a_M_0:Int) (a_M_1:Int) (a_M_2:Int) (a_M_3:Int) (b_Neg : Bool) (b_M_0:Int) (b_M_1:Int) (b_M_2:Int) (b_M_3:Int) (y : Bool×Int×Int×Int×Int) (hF : f82 a_Neg a_M_0 a_M_1 a_M_2 a_M_3 b_Neg b_M_0 b_M_1 b_M_2 b_M_3 = some y) : VC Tryz.f82 C82 (a_Neg,a_M_0,a_M_1,a_M_2,a_M_3,b_Neg,b_M_0,b_M_1,b_M_2,b_M_3) y := by
 unfold f82 at hF
 refine OL (OL (OL (condI hF (fun hF=>?_) (fun hF=>?_))))
 ·refine OL (EI (.take 0 (.take 1 (.take 2 (.take 3 (.take 4 (.take 5 (.alt 6 (.take 7 (.alt 8 .done .done)) .done))))))) (EI [] (EI [] (AI rfl (AI TV ?_)))))
  obtain ⟨q2_6,hq2_6,hF⟩ := bindE hF
  refine OL (AI f108_in (callV0 (callI C108 (a_M_0,a_M_1,a_M_2,a_M_3,b_M_0,b_M_1,b_M_2,b_M_3) q2_6 [] false C108_holds hq2_6 rfl rfl (AI (fun h=>nomatch h) (R2 (AI (R2 TV) (AI TV (AI TV (OL ?_)))))))))
  have hy := someE hF
  subst hy
  refine AI rfl (E4 [] (AI rfl (AI (AI rfl TV) TV)))
 refine OL (OL ?_)
 obtain ⟨q2_8,hq2_8,hF⟩ := bindE hF
 refine OL (AI f109_in (callV0 (callI C109 (a_M_0,a_M_1,a_M_2,a_M_3,b_M_0,b_M_1,b_M_2,b_M_3) q2_8 [] false C109_holds hq2_8 rfl rfl (AI (fun h=>nomatch h) (R2 (AI (R2 TV) (AI TV (condI hF (fun hF=>?_) (fun hF=>?_)))))))))
 ·refine OL (EI (.take 0 (.take 1 (.take 2 (.take 3 (.take 4 (.take 5 (.alt 6 (.take 7 (.alt 8 .done .done)) .done))))))) (EI [] (EI [] (AI rfl (AI TV ?_)))))
  obtain ⟨q4_6,hq4_6,hF⟩ := bindE hF
  refine OL (AI f110_in (callV0 (callI C110 (b_M_0,b_M_1,b_M_2,b_M_3,a_M_0,a_M_1,a_M_2,a_M_3) q4_6 [] false C110_holds hq4_6 rfl rfl (AI (fun h=>nomatch h) (R2 (AI (R2 TV) (AI TV (AI TV (OL ?_)))))))))
  have hy := someE hF
  subst hy
  refine AI rfl (E4 [] (AI rfl (AI (AI rfl TV) TV)))
 refine OL (EI (.take 0 (.take 1 (.take 2 (.take 3 (.take 4 (.take 5 (.alt 6 (.take 7 (.alt 8 .done .done)) .done))))))) (EI [] (EI [] (AI rfl (AI TV ?_)))))
 obtain ⟨q5_6,hq5_6,hF⟩ := bindE hF
 refine OL (AI f110_in (callV0 (callI C110 (a_M_0,a_M_1,a_M_2,a_M_3,b_M_0,b_M_1,b_M_2,b_M_3) q5_6 [] false C110_holds hq5_6 rfl rfl (AI (fun h=>nomatch h) (R2 (AI (R2 TV) (AI TV (AI TV (OL ?_)))))))))
 have hy := someE hF
 subst hy
 refine AI rfl (E4 [] (AI rfl (AI (AI rfl TV) TV)))
theorem C82_holds : C82.Holds Tryz.prog 82 := holds_of_vc tab_ok mixed (fn := Tryz.f82) (by kernel_rfl) rfl C82 (fun x y hF=>C82_vc x.1 x.2.1 x.2.2.1 x.2.2.2.1 x.2.2.2.2.1 x.2.2.2.2.2.1 x.2.2.2.2.2.2.1 x.2.2.2.2.2.2.2.1 x.2.2.2.2.2.2.2.2.1 x.2.2.2.2.2.2.2.2.2 y hF)
theorem f82_in : InP 82 := ⟨Tryz.f82,by kernel_rfl,by kernel_rfl,by kernel_rfl⟩
def f81_j3 (a_M_0:Int) (a_M_1:Int) (a_M_2:Int) (a_M_3:Int) : Option Bool :=
 bif ((bitsOf IntKind.u64 (fun p q=>p ||| q) (bitsOf IntKind.u64 (fun p q=>p ||| q) a_M_1 a_M_2) a_M_3) != (0:Int)) then
 some true
 else
 some (decide (a_M_0 ≥ (9223372036854775808:Int)))
def f81_j2 (a_Neg : Bool) (a_M_0:Int) (a_M_1:Int) (a_M_2:Int) (a_M_3:Int) : Option (Sum Unit Int) :=
 bindF (f81_j3 a_M_0 a_M_1 a_M_2 a_M_3) fun z3 =>
 bif z3 then
 bif a_Neg then
 some (Sum.inr (-9223372036854775808:Int))
 else
 some (Sum.inr (9223372036854775807:Int))
 else
 some (Sum.inl ())
def f81 (a_Neg : Bool) (a_M_0:Int) (a_M_1:Int) (a_M_2:Int) (a_M_3:Int) : Option Int :=
 bindF (f81_j2 a_Neg a_M_0 a_M_1 a_M_2 a_M_3) fun z2 =>
 sumF z2 (fun z2a =>
 bif a_Neg then
 some (i64.wrap (0 - (i64.wrap a_M_0)))
 else
 some (i64.wrap a_M_0)) (fun z2b =>
 some z2b)
def C81 : Con where
 X := Bool×Int×Int×Int×Int
 Y := Int
 e := 0
 args x := [.raw true [(.d .bool x.1),(.d T10 x.2.1),(.d T10 x.2.2.1),(.d T10 x.2.2.2.1),(.d T10 x.2.2.2.2)]]
 hin x := []
 F x := f81 x.1 x.2.1 x.2.2.1 x.2.2.2.1 x.2.2.2.2
 ret y := [.dat T1 y]
 hout y := []
 nout := 0
theorem C81_vc (a_Neg : Bool) (a_M_0:Int) (a_M_1:Int) (a_M_2:Int) (a_M_3:Int) (y:Int) (hF : f81 a_Neg a_M_0 a_M_1 a_M_2 a_M_3 = some y) : VC Tryz.f81 C81 (a_Neg,a_M_0,a_M_1,a_M_2,a_M_3) y := by
 unfold f81 at hF
 refine OL ?_
 obtain ⟨z2,hz2,hF⟩ := bindE hF
 refine OQ ⟨Sum.elim (fun z2a=>[(0,⟨[(1,P0 0 0)],[(0,.cells [(.d .bool a_Neg),(.d T10 a_M_0),(.d T10 a_M_1),(.d T10 a_M_2),(.d T10 a_M_3)])],1⟩)]) (fun z2b=>[(1,⟨[(2,.dat T1 z2b)],[],0⟩)]) z2,?_,?_⟩
 ·have hF := hz2
  clear hz2
  unfold f81_j2 at hF
  obtain ⟨z3,hz3,hF⟩ := bindE hF
  refine OQ ⟨[(0,⟨[(1,P0 0 0),(20,.dat .bool z3)],[(0,.cells [(.d .bool a_Neg),(.d T10 a_M_0),(.d T10 a_M_1),(.d T10 a_M_2),(.d T10 a_M_3)])],1⟩)],?_,?_⟩
  ·have hF := hz3
   clear hz3
   unfold f81_j3 at hF
   refine AI (by decide) (AI (fun h=>absurd h (by decide)) ?_)
   refine AI (fun _=>?_) (AI (fun h=>absurd h (by decide)) (AI (fun h=>absurd h (by decide)) TV))
   refine AI (by decide) (AI (fun h=>absurd h (by decide)) ?_)
   refine AI (fun h=>absurd h (by decide)) ?_
   refine AI (fun _=>?_) (AI (fun h=>absurd h (by decide)) TV)
   refine AI (by decide) (AI (fun h=>absurd h (by decide)) ?_)
   refine AI (fun h=>absurd h (by decide)) ?_
   refine AI (fun h=>absurd h (by decide)) ?_
   refine AI (fun _=>?_) TV
   refine condN hF (fun hF=>?_) (fun hF=>?_)
   ·refine gdYF (AI (by decide) (AI (fun _=>?_) (AI (fun h=>absurd h (by decide)) (AI (fun h=>absurd h (by decide)) (AI (fun h=>absurd h (by decide)) TV)))))
    refine gdYF (gdYF (condF ?_))
    have hz := someE hF
    subst hz
    refine E4 [(0,some 0)] (R2 (AI (AI rfl TV) (AI rfl TV)))
   refine gdNF (gdNF (gdNF (condT ?_)))
   have hz := someE hF
   subst hz
   refine E4 [(0,some 0)] (R2 (AI (AI rfl TV) (AI rfl TV)))
  refine AI (condI hF (fun hF=>?_) (fun hF=>?_)) TV
  ·refine OL (OL (condI hF (fun hF=>?_) (fun hF=>?_)))
   ·refine OL ?_
    have hz := someE hF
    subst hz
    refine E4 [] (R2 (AI TV TV))
   refine OL ?_
   have hz := someE hF
   subst hz
   refine E4 [] (R2 (AI TV TV))
  have hz := someE hF
  subst hz
  refine E4 [(0,some 0)] (AI rfl (AI (AI rfl TV) (AI rfl TV)))
 rcases z2 with z2a | z2b
 ·dsimp only [sumF] at hF
  refine AI (OL (OL (condI hF (fun hF=>?_) (fun hF=>?_)))) TV
  ·refine OL (AI (by decide) (AI (fun _=>?_) (AI (fun h=>absurd h (by decide)) (AI (fun h=>absurd h (by decide)) (AI (fun h=>absurd h (by decide)) TV)))))
   have hy := someE hF
   subst hy
   refine AI rfl (E4 [] (R2 (AI TV TV)))
  refine OL (AI (by decide) (AI (fun _=>?_) (AI (fun h=>absurd h (by decide)) (AI (fun h=>absurd h (by decide)) (AI (fun h=>absurd h (by decide)) TV)))))
  have hy := someE hF
  subst hy
  refine AI rfl (E4 [] (R2 (AI TV TV)))
 dsimp only [sumF] at hF
 refine AI ?_ TV
 have hy := someE hF
 subst hy
 refine AI rfl (E4 [] (R2 (AI TV TV)))
theorem C81_holds : C81.Holds Tryz.prog 81 := holds_of_vc tab_ok mixed (fn := Tryz.f81) (by kernel_rfl) rfl C81 (fun x y hF=>C81_vc x.1 x.2.1 x.2.2.1 x.2.2.2.1 x.2.2.2.2 y hF)
theorem f81_in : InP 81 := ⟨Tryz.f81,by kernel_rfl,by kernel_rfl,by kernel_rfl⟩
def f55 (a:Int) (b:Int) : Option Int :=
 bindF (f83 a) fun r1 =>
 bindF (f83 b) fun r2 =>
 bindF (f82 r1.1 r1.2 (0:Int) (0:Int) (0:Int) r2.1 r2.2 (0:Int) (0:Int) (0:Int)) fun r3 =>
 bindF (f81 r3.1 r3.2.1 r3.2.2.1 r3.2.2.2.1 r3.2.2.2.2) fun r4 =>
 some r4
def C55 : Con where
 X := Int×Int
 Y := Int
 e := 0
 args x := [.dat T1 x.1,.dat T1 x.2]
 hin x := []
 F x := f55 x.1 x.2
 ret y := [.dat T1 y]
 hout y := []
 nout := 0
theorem C55_vc (a:Int) (b:Int) (y:Int) (hF : f55 a b = some y) : VC Tryz.f55 C55 (a,b) y := by
 unfold f55 at hF
 refine OL (OL ?_)
 obtain ⟨r1,hr1,hF⟩ := bindE hF
 refine OL (AI f83_in (callV0 (callI C83 a r1 [] false C83_holds hr1 rfl rfl (AI rfl (AI (fun h=>nomatch h) (R2 (AI TV (AI TV ?_))))))))
 obtain ⟨r2,hr2,hF⟩ := bindE hF
 refine OL (AI f83_in (callV0 (callI C83 b r2 [] false C83_holds hr2 rfl rfl (AI rfl (AI (fun h=>nomatch h) (R2 (AI TV (AI TV ?_))))))))
 obtain ⟨r3,hr3,hF⟩ := bindE hF
 refine OL (AI f82_in (callV0 (callI C82 (r1.1,r1.2,(0:Int),(0:Int),(0:Int),r2.1,r2.2,(0:Int),(0:Int),(0:Int)) r3 [] false C82_holds hr3 rfl rfl (AI (fun h=>nomatch h) (R2 (AI (R2 TV) (AI TV ?_)))))))
 obtain ⟨r4,hr4,hF⟩ := bindE hF
 refine OL (AI f81_in (callV0 (callI C81 (r3.1,r3.2.1,r3.2.2.1,r3.2.2.2.1,r3.2.2.2.2) r4 [] false C81_holds hr4 rfl rfl (AI (fun h=>nomatch h) (R2 (AI (AI rfl TV) (AI TV ?_)))))))
 have hy := someE hF
 subst hy
 refine AI rfl (E4 [] (R2 (AI TV TV)))
theorem C55_holds : C55.Holds Tryz.prog 55 := holds_of_vc tab_ok mixed (fn := Tryz.f55) (by kernel_rfl) rfl C55 (fun x y hF=>C55_vc x.1 x.2 y hF)
theorem f55_in : InP 55 := ⟨Tryz.f55,by kernel_rfl,by kernel_rfl,by kernel_rfl⟩
def f84 (a_Neg : Bool) (a_M_0:Int) (a_M_1:Int) (a_M_2:Int) (a_M_3:Int) : Option (Bool×Int×Int×Int×Int) :=
 some ((!a_Neg),a_M_0,a_M_1,a_M_2,a_M_3)
def C84 : Con where
 X := Bool×Int×Int×Int×Int
 Y := Bool×Int×Int×Int×Int
 e := 0
 args x := [.raw true [(.d .bool x.1),(.d T10 x.2.1),(.d T10 x.2.2.1),(.d T10 x.2.2.2.1),(.d T10 x.2.2.2.2)]]
 hin x := []
 F x := f84 x.1 x.2.1 x.2.2.1 x.2.2.2.1 x.2.2.2.2
 ret y := [.raw true [(.d .bool y.1),(.d T10 y.2.1),(.d T10 y.2.2.1),(.d T10 y.2.2.2.1),(.d T10 y.2.2.2.2)]]
 hout y := []
 nout := 0
theorem C84_vc (a_Neg : Bool) (a_M_0:Int) (a_M_1:Int) (a_M_2:Int) (a_M_3:Int) (y : Bool×Int×Int×Int×Int) (hF : f84 a_Neg a_M_0 a_M_1 a_M_2 a_M_3 = some y) : VC Tryz.f84 C84 (a_Neg,a_M_0,a_M_1,a_M_2,a_M_3) y := by
 unfold f84 at hF
 refine OL (OL (OL ?_))
 have hy := someE hF
 subst hy
 refine AI rfl (E4 [] (AI rfl (AI (AI rfl TV) TV)))
theorem C84_holds : C84.Holds Tryz.prog 84 := holds_of_vc tab_ok mixed (fn := Tryz.f84) (by kernel_rfl) rfl C84 (fun x y hF=>C84_vc x.1 x.2.1 x.2.2.1 x.2.2.2.1 x.2.2.2.2 y hF)
theorem f84_in : InP 84 := ⟨Tryz.f84,by kernel_rfl,by kernel_rfl,by kernel_rfl⟩
def f56 (a:Int) (b:Int) : Option Int :=
 bindF (f83 a) fun r1 =>
 bindF (f83 b) fun r2 =>
 bindF (f84 r2.1 r2.2 (0:Int) (0:Int) (0:Int)) fun r3 =>
 bindF (f82 r1.1 r1.2 (0:Int) (0:Int) (0:Int) r3.1 r3.2.1 r3.2.2.1 r3.2.2.2.1 r3.2.2.2.2) fun r4 =>
 bindF (f81 r4.1 r4.2.1 r4.2.2.1 r4.2.2.2.1 r4.2.2.2.2) fun r5 =>
 some r5
def C56 : Con where
 X := Int×Int
 Y := Int
 e := 0
 args x := [.dat T1 x.1,.dat T1 x.2]
 hin x := []
 F x := f56 x.1 x.2
 ret y := [.dat T1 y]
 hout y := []
 nout := 0
theorem C56_vc (a:Int) (b:Int) (y:Int) (hF : f56 a b = some y) : VC Tryz.f56 C56 (a,b) y := by
 unfold f56 at hF
 refine OL (OL ?_)
 obtain ⟨r1,hr1,hF⟩ := bindE hF
 refine OL (AI f83_in (callV0 (callI C83 a r1 [] false C83_holds hr1 rfl rfl (AI rfl (AI (fun h=>nomatch h) (R2 (AI TV (AI TV ?_))))))))
 obtain ⟨r2,hr2,hF⟩ := bindE hF
 refine OL (AI f83_in (callV0 (callI C83 b r2 [] false C83_holds hr2 rfl rfl (AI rfl (AI (fun h=>nomatch h) (R2 (AI TV (AI TV ?_))))))))
 obtain ⟨r3,hr3,hF⟩ := bindE hF
 refine OL (AI f84_in (callV0 (callI C84 (r2.1,r2.2,(0:Int),(0:Int),(0:Int)) r3 [] false C84_holds hr3 rfl rfl (AI (fun h=>nomatch h) (R2 (AI (AI rfl TV) (AI TV ?_)))))))
 obtain ⟨r4,hr4,hF⟩ := bindE hF
 refine OL (AI f82_in (callV0 (callI C82 (r1.1,r1.2,(0:Int),(0:Int),(0:Int),r3.1,r3.2.1,r3.2.2.1,r3.2.2.2.1,r3.2.2.2.2) r4 [] false C82_holds hr4 rfl rfl (AI (fun h=>nomatch h) (R2 (AI (R2 TV) (AI TV ?_)))))))
 obtain ⟨r5,hr5,hF⟩ := bindE hF
 refine OL (AI f81_in (callV0 (callI C81 (r4.1,r4.2.1,r4.2.2.1,r4.2.2.2.1,r4.2.2.2.2) r5 [] false C81_holds hr5 rfl rfl (AI (fun h=>nomatch h) (R2 (AI (AI rfl TV) (AI TV ?_)))))))
 have hy := someE hF
 subst hy
 refine AI rfl (E4 [] (R2 (AI TV TV)))
theorem C56_holds : C56.Holds Tryz.prog 56 := holds_of_vc tab_ok mixed (fn := Tryz.f56) (by kernel_rfl) rfl C56 (fun x y hF=>C56_vc x.1 x.2 y hF)
theorem f56_in : InP 56 := ⟨Tryz.f56,by kernel_rfl,by kernel_rfl,by kernel_rfl⟩
def f86_l1 (r1:Int) (r2:Int) (go : (Int×Int×Int×Int×Int) → Option (Int×Int×Int×Int)) (v40:Int) (c1_0:Int) (c1_1:Int) (c1_2:Int) (c1_3:Int) : Option (Int×Int×Int×Int) :=
 bif (decide (v40 < (2:Int))) then
 guardF (0 ≤ v40 ∧ v40 < (2:Int)) <|
 pickF v40
 [(bindF (f108 c1_0 c1_1 c1_2 c1_3 (u64.wrap ((u64.wrap ((bitsOf IntKind.u64 (fun p q=>p &&& q) r1 (4294967295:Int)) * (Int.fdiv r2 (2 ^ min (Int.toNat (32:Int)) (IntKind.bits IntKind.u64))))) * 2 ^ min (Int.toNat (32:Int)) (IntKind.bits IntKind.u64))) (Int.fdiv (u64.wrap ((bitsOf IntKind.u64 (fun p q=>p &&& q) r1 (4294967295:Int)) * (Int.fdiv r2 (2 ^ min (Int.toNat (32:Int)) (IntKind.bits IntKind.u64))))) (2 ^ min (Int.toNat (32:Int)) (IntKind.bits IntKind.u64))) (0:Int) (0:Int)) fun r9 =>
 go ((i64.wrap (v40 + (1:Int))),r9.1,r9.2.1,r9.2.2.1,r9.2.2.2)),
 (bindF (f108 c1_0 c1_1 c1_2 c1_3 (u64.wrap ((u64.wrap ((Int.fdiv r1 (2 ^ min (Int.toNat (32:Int)) (IntKind.bits IntKind.u64))) * (bitsOf IntKind.u64 (fun p q=>p &&& q) r2 (4294967295:Int)))) * 2 ^ min (Int.toNat (32:Int)) (IntKind.bits IntKind.u64))) (Int.fdiv (u64.wrap ((Int.fdiv r1 (2 ^ min (Int.toNat (32:Int)) (IntKind.bits IntKind.u64))) * (bitsOf IntKind.u64 (fun p q=>p &&& q) r2 (4294967295:Int)))) (2 ^ min (Int.toNat (32:Int)) (IntKind.bits IntKind.u64))) (0:Int) (0:Int)) fun r10 =>
 go ((i64.wrap (v40 + (1:Int))),r10.1,r10.2.1,r10.2.2.1,r10.2.2.2))]
 else
 some (c1_0,c1_1,c1_2,c1_3)
def f86 (a:Int) (b:Int) : Option (Bool×Int×Int×Int×Int) :=
 bindF (f111 a) fun r1 =>
 bindF (f111 b) fun r2 =>
 bindF (loopF (fun go x=>f86_l1 r1 r2 go x.1 x.2.1 x.2.2.1 x.2.2.2.1 x.2.2.2.2) fuelN ((0:Int),(u64.wrap ((bitsOf IntKind.u64 (fun p q=>p &&& q) r1 (4294967295:Int)) * (bitsOf IntKind.u64 (fun p q=>p &&& q) r2 (4294967295:Int)))),(u64.wrap ((Int.fdiv r1 (2 ^ min (Int.toNat (32:Int)) (IntKind.bits IntKind.u64))) * (Int.fdiv r2 (2 ^ min (Int.toNat (32:Int)) (IntKind.bits IntKind.u64))))),(0:Int),(0:Int))) fun z7 =>
 some ((!((decide (a < (0:Int))) == (decide (b < (0:Int))))),z7.1,z7.2.1,z7.2.2.1,z7.2.2.2)
def C86 : Con where
 X := Int×Int
 Y := Bool×Int×Int×Int×Int
 e := 0
 args x := [.dat T1 x.1,.dat T1 x.2]
 hin x := []
 F x := f86 x.1 x.2
 ret y := [.raw true [(.d .bool y.1),(.d T10 y.2.1),(.d T10 y.2.2.1),(.d T10 y.2.2.2.1),(.d T10 y.2.2.2.2)]]
 hout y := []
 nout := 0
theorem C86_vc (a:Int) (b:Int) (y : Bool×Int×Int×Int×Int) (hF : f86 a b = some y) : VC Tryz.f86 C86 (a,b) y := by
 unfold f86 at hF
 refine OL (OL ?_)
 obtain ⟨r1,hr1,hF⟩ := bindE hF
 refine OL (AI f111_in (callV0 (callI C111 a r1 [] false C111_holds hr1 rfl rfl (AI rfl (AI (fun h=>nomatch h) (R2 (AI TV (AI TV ?_))))))))
 obtain ⟨r2,hr2,hF⟩ := bindE hF
 refine OL (AI f111_in (callV0 (callI C111 b r2 [] false C111_holds hr2 rfl rfl (AI rfl (AI (fun h=>nomatch h) (R2 (AI TV (AI TV (OL (AI (by decide) (AI (by decide) (OL (OL (OL (OL ?_)))))))))))))))
 obtain ⟨z7,hz7,hF⟩ := bindE hF
 refine loopI (Int×Int×Int×Int×Int) (Int×Int×Int×Int) (fun x=>⟨[(0,.dat T1 a),(1,.dat T1 b),(4,P0 0 0),(11,P0 1 0),(39,.raw true [(.d T10 (u64.wrap ((bitsOf IntKind.u64 (fun p q=>p &&& q) r1 (4294967295:Int)) * (Int.fdiv r2 (2 ^ min (Int.toNat (32:Int)) (IntKind.bits IntKind.u64)))))),(.d T10 (u64.wrap ((Int.fdiv r1 (2 ^ min (Int.toNat (32:Int)) (IntKind.bits IntKind.u64))) * (bitsOf IntKind.u64 (fun p q=>p &&& q) r2 (4294967295:Int)))))]),(40,.dat T1 x.1)],[(0,.cells [(.d .bool false),(.d T10 (0:Int)),(.d T10 (0:Int)),(.d T10 (0:Int)),(.d T10 (0:Int))]),(1,.cells [(.d T10 x.2.1),(.d T10 x.2.2.1),(.d T10 x.2.2.2.1),(.d T10 x.2.2.2.2)])],2⟩) (fun z=>[(2,⟨[(0,.dat T1 a),(1,.dat T1 b),(4,P0 0 0),(11,P0 1 0)],[(0,.cells [(.d .bool false),(.d T10 (0:Int)),(.d T10 (0:Int)),(.d T10 (0:Int)),(.d T10 (0:Int))]),(1,.cells [(.d T10 z.1),(.d T10 z.2.1),(.d T10 z.2.2.1),(.d T10 z.2.2.2)])],2⟩)]) (loopF (fun go x=>f86_l1 r1 r2 go x.1 x.2.1 x.2.2.1 x.2.2.2.1 x.2.2.2.2)) fuelN ((0:Int),(u64.wrap ((bitsOf IntKind.u64 (fun p q=>p &&& q) r1 (4294967295:Int)) * (bitsOf IntKind.u64 (fun p q=>p &&& q) r2 (4294967295:Int)))),(u64.wrap ((Int.fdiv r1 (2 ^ min (Int.toNat (32:Int)) (IntKind.bits IntKind.u64))) * (Int.fdiv r2 (2 ^ min (Int.toNat (32:Int)) (IntKind.bits IntKind.u64))))),(0:Int),(0:Int)) z7 (AI hz7 (AI (E4 [(0,some 0),(1,some 1)] (R4 (AI (R3 TV) (R2 TV)))) (AI (fun _ _ h=>loopZ h) (AI (fun m=>curI (fun v40=>curI (fun c1_0=>curI (fun c1_1=>curI (fun c1_2=>fun c1_3 z hF=>?_))))) ?_))))
 ·have hF : f86_l1 r1 r2 (loopF (fun go x=>f86_l1 r1 r2 go x.1 x.2.1 x.2.2.1 x.2.2.2.1 x.2.2.2.2) m) v40 c1_0 c1_1 c1_2 c1_3 = some z := hF
  unfold f86_l1 at hF
  refine OL (OL (condI hF (fun hF=>?_) (fun hF=>?_)))
  ·refine OL (OL (guardI hF (fun hF=>?_)))
   refine AI (fun hk8=>?_) ?_
   ·have hF := pickE hF hk8
    dsimp only [nthO] at hF
    refine AI (by decide) (AI (by decide) ?_)
    obtain ⟨r9,hr9,hF⟩ := bindE hF
    refine OL (AI f108_in (callV0 (callI C108 (c1_0,c1_1,c1_2,c1_3,(u64.wrap ((u64.wrap ((bitsOf IntKind.u64 (fun p q=>p &&& q) r1 (4294967295:Int)) * (Int.fdiv r2 (2 ^ min (Int.toNat (32:Int)) (IntKind.bits IntKind.u64))))) * 2 ^ min (Int.toNat (32:Int)) (IntKind.bits IntKind.u64))),(Int.fdiv (u64.wrap ((bitsOf IntKind.u64 (fun p q=>p &&& q) r1 (4294967295:Int)) * (Int.fdiv r2 (2 ^ min (Int.toNat (32:Int)) (IntKind.bits IntKind.u64))))) (2 ^ min (Int.toNat (32:Int)) (IntKind.bits IntKind.u64))),(0:Int),(0:Int)) r9 [] false C108_holds hr9 rfl rfl ?_)))
    refine AI (fun h=>nomatch h) (R2 (AI (R2 TV) (AI TV (OL (EI ((i64.wrap (v40 + (1:Int))),r9.1,r9.2.1,r9.2.2.1,r9.2.2.2) (AI hF (E4 [(0,some 0),(1,some 1)] (R4 (AI (R3 TV) (R2 TV))))))))))
   refine AI (fun hk8=>?_) TV
   have hF := pickE hF hk8
   dsimp only [nthO] at hF
   refine AI (by decide) (AI (by decide) ?_)
   obtain ⟨r10,hr10,hF⟩ := bindE hF
   refine OL (AI f108_in (callV0 (callI C108 (c1_0,c1_1,c1_2,c1_3,(u64.wrap ((u64.wrap ((Int.fdiv r1 (2 ^ min (Int.toNat (32:Int)) (IntKind.bits IntKind.u64))) * (bitsOf IntKind.u64 (fun p q=>p &&& q) r2 (4294967295:Int)))) * 2 ^ min (Int.toNat (32:Int)) (IntKind.bits IntKind.u64))),(Int.fdiv (u64.wrap ((Int.fdiv r1 (2 ^ min (Int.toNat (32:Int)) (IntKind.bits IntKind.u64))) * (bitsOf IntKind.u64 (fun p q=>p &&& q) r2 (4294967295:Int)))) (2 ^ min (Int.toNat (32:Int)) (IntKind.bits IntKind.u64))),(0:Int),(0:Int)) r10 [] false C108_holds hr10 rfl rfl ?_)))
   refine AI (fun h=>nomatch h) (R2 (AI (R2 TV) (AI TV (OL (EI ((i64.wrap (v40 + (1:Int))),r10.1,r10.2.1,r10.2.2.1,r10.2.2.2) (AI hF (E4 [(0,some 0),(1,some 1)] (R4 (AI (R3 TV) (R2 TV))))))))))
  have hz := someE hF
  subst hz
  refine E4 [(0,some 0),(1,some 1)] (R3 (AI (R2 TV) (R2 TV)))
 refine AI (OL (OL ?_)) TV
 have hy := someE hF
 subst hy
 refine AI rfl (E4 [] (AI rfl (AI (AI rfl TV) TV)))
theorem C86_holds : C86.Holds Tryz.prog 86 := holds_of_vc tab_ok mixed (fn := Tryz.f86) (by kernel_rfl) rfl C86 (fun x y hF=>C86_vc x.1 x.2 y hF)
theorem f86_in : InP 86 := ⟨Tryz.f86,by kernel_rfl,by kernel_rfl,by kernel_rfl⟩
def f112 (m_0:Int) (m_1:Int) (m_2:Int) (m_3:Int) (i:Int) : Option Int :=
 guardF (0 ≤ (i64.wrap (Int.tdiv i (64:Int))) ∧ (i64.wrap (Int.tdiv i (64:Int))) < (4:Int)) <|
 pickF (i64.wrap (Int.tdiv i (64:Int)))
 [(guardF (0 ≤ (u64.wrap (Int.tmod i (64:Int)))) <|
 some (bitsOf IntKind.u64 (fun p q=>p &&& q) (Int.fdiv m_0 (2 ^ min (Int.toNat (u64.wrap (Int.tmod i (64:Int)))) (IntKind.bits IntKind.u64))) (1:Int))),
 (guardF (0 ≤ (u64.wrap (Int.tmod i (64:Int)))) <|
 some (bitsOf IntKind.u64 (fun p q=>p &&& q) (Int.fdiv m_1 (2 ^ min (Int.toNat (u64.wrap (Int.tmod i (64:Int)))) (IntKind.bits IntKind.u64))) (1:Int))),
 (guardF (0 ≤ (u64.wrap (Int.tmod i (64:Int)))) <|
 some (bitsOf IntKind.u64 (fun p q=>p &&& q) (Int.fdiv m_2 (2 ^ min (Int.toNat (u64.wrap (Int.tmod i (64:Int)))) (IntKind.bits IntKind.u64))) (1:Int))),
 (guardF (0 ≤ (u64.wrap (Int.tmod i (64:Int)))) <|
 some (bitsOf IntKind.u64 (fun p q=>p &&& q) (Int.fdiv m_3 (2 ^ min (Int.toNat (u64.wrap (Int.tmod i (64:Int)))) (IntKind.bits IntKind.u64))) (1:Int)))]
def C112 : Con where
 X := Int×Int×Int×Int×Int
 Y := Int
 e := 0
 args x := [.raw true [(.d T10 x.1),(.d T10 x.2.1),(.d T10 x.2.2.1),(.d T10 x.2.2.2.1)],.dat T1 x.2.2.2.2]
 hin x := []
 F x := f112 x.1 x.2.1 x.2.2.1 x.2.2.2.1 x.2.2.2.2
 ret y := [.dat T10 y]
 hout y := []
 nout := 0
theorem C112_vc (m_0:Int) (m_1:Int) (m_2:Int) (m_3:Int) (i:Int) (y:Int) (hF : f112 m_0 m_1 m_2 m_3 i = some y) : VC Tryz.f112 C112 (m_0,m_1,m_2,m_3,i) y := by
 unfold f112 at hF
 refine OL (OL (AI (by decide) (guardI hF (fun hF=>?_))))
 refine AI (fun hk1=>?_) ?_
 ·have hF := pickE hF hk1
  dsimp only [nthO] at hF
  refine AI (by decide) (guardI hF (fun hF=>?_))
  have hy := someE hF
  subst hy
  refine AI rfl (E4 [] (R2 (AI TV TV)))
 refine AI (fun hk1=>?_) ?_
 ·have hF := pickE hF hk1
  dsimp only [nthO] at hF
  refine AI (by decide) (guardI hF (fun hF=>?_))
  have hy := someE hF
  subst hy
  refine AI rfl (E4 [] (R2 (AI TV TV)))
 refine AI (fun hk1=>?_) ?_
 ·have hF := pickE hF hk1
  dsimp only [nthO] at hF
  refine AI (by decide) (guardI hF (fun hF=>?_))
  have hy := someE hF
  subst hy
  refine AI rfl (E4 [] (R2 (AI TV TV)))
 refine AI (fun hk1=>?_) TV
 have hF := pickE hF hk1
 dsimp only [nthO] at hF
 refine AI (by decide) (guardI hF (fun hF=>?_))
 have hy := someE hF
 subst hy
 refine AI rfl (E4 [] (R2 (AI TV TV)))
theorem C112_holds : C112.Holds Tryz.prog 112 := holds_of_vc tab_ok mixed (fn := Tryz.f112) (by kernel_rfl) rfl C112 (fun x y hF=>C112_vc x.1 x.2.1 x.2.2.1 x.2.2.2.1 x.2.2.2.2 y hF)
theorem f112_in : InP 112 := ⟨Tryz.f112,by kernel_rfl,by kernel_rfl,by kernel_rfl⟩
def f85_l1 (a_M_0:Int) (a_M_1:Int) (a_M_2:Int) (a_M_3:Int) (n:Int) (go : (Int×Int×Int×Int×Int) → Option (Int×Int×Int×Int)) (i:Int) (c2_1:Int) (c2_2:Int) (c2_3:Int) (c2_4:Int) : Option (Int×Int×Int×Int) :=
 bif (decide (i < (256:Int))) then
 bindF (f112 a_M_0 a_M_1 a_M_2 a_M_3 i) fun r6 =>
 bif (r6 == (1:Int)) then
 guardF (0 ≤ (i64.wrap (Int.tdiv (i64.wrap (i - n)) (64:Int))) ∧ (i64.wrap (Int.tdiv (i64.wrap (i - n)) (64:Int))) < (4:Int)) <|
 pickF (i64.wrap (Int.tdiv (i64.wrap (i - n)) (64:Int)))
 [(guardF (0 ≤ (u64.wrap (Int.tmod (i64.wrap (i - n)) (64:Int)))) <|
 go ((i64.wrap (i + (1:Int))),(bitsOf IntKind.u64 (fun p q=>p ||| q) c2_1 (u64.wrap ((1:Int) * 2 ^ min (Int.toNat (u64.wrap (Int.tmod (i64.wrap (i - n)) (64:Int)))) (IntKind.bits IntKind.u64)))),c2_2,c2_3,c2_4)),
 (guardF (0 ≤ (u64.wrap (Int.tmod (i64.wrap (i - n)) (64:Int)))) <|
 go ((i64.wrap (i + (1:Int))),c2_1,(bitsOf IntKind.u64 (fun p q=>p ||| q) c2_2 (u64.wrap ((1:Int) * 2 ^ min (Int.toNat (u64.wrap (Int.tmod (i64.wrap (i - n)) (64:Int)))) (IntKind.bits IntKind.u64)))),c2_3,c2_4)),
 (guardF (0 ≤ (u64.wrap (Int.tmod (i64.wrap (i - n)) (64:Int)))) <|
 go ((i64.wrap (i + (1:Int))),c2_1,c2_2,(bitsOf IntKind.u64 (fun p q=>p ||| q) c2_3 (u64.wrap ((1:Int) * 2 ^ min (Int.toNat (u64.wrap (Int.tmod (i64.wrap (i - n)) (64:Int)))) (IntKind.bits IntKind.u64)))),c2_4)),
 (guardF (0 ≤ (u64.wrap (Int.tmod (i64.wrap (i - n)) (64:Int)))) <|
 go ((i64.wrap (i + (1:Int))),c2_1,c2_2,c2_3,(bitsOf IntKind.u64 (fun p q=>p ||| q) c2_4 (u64.wrap ((1:Int) * 2 ^ min (Int.toNat (u64.wrap (Int.tmod (i64.wrap (i - n)) (64:Int)))) (IntKind.bits IntKind.u64))))))]
 else
 go ((i64.wrap (i + (1:Int))),c2_1,c2_2,c2_3,c2_4)
 else
 some (c2_1,c2_2,c2_3,c2_4)
def f85_j2 (a_M_0:Int) (a_M_1:Int) (a_M_2:Int) (a_M_3:Int) (n:Int) : Option (Sum Unit Unit) :=
 bif (n == (0:Int)) then
 some (Sum.inr ())
 else
 bindF (f112 a_M_0 a_M_1 a_M_2 a_M_3 (i64.wrap (n - (1:Int)))) fun r10 =>
 bif (r10 == (0:Int)) then
 some (Sum.inr ())
 else
 some (Sum.inl ())
def f85_l3 (a_M_0:Int) (a_M_1:Int) (a_M_2:Int) (a_M_3:Int) (n:Int) (go : (Bool×Int) → Option Bool) (more : Bool) (i:Int) : Option Bool :=
 bif (decide (i < (i64.wrap (n - (1:Int))))) then
 bif more then
 go (true,(i64.wrap (i + (1:Int))))
 else
 bindF (f112 a_M_0 a_M_1 a_M_2 a_M_3 i) fun r14 =>
 go ((r14 == (1:Int)),(i64.wrap (i + (1:Int))))
 else
 some more
def f85 (a_Neg : Bool) (a_M_0:Int) (a_M_1:Int) (a_M_2:Int) (a_M_3:Int) (n:Int) : Option (Bool×Int×Int×Int×Int) :=
 bindF (loopF (fun go x=>f85_l1 a_M_0 a_M_1 a_M_2 a_M_3 n go x.1 x.2.1 x.2.2.1 x.2.2.2.1 x.2.2.2.2) fuelN (n,(0:Int),(0:Int),(0:Int),(0:Int))) fun z5 =>
 bindF (f85_j2 a_M_0 a_M_1 a_M_2 a_M_3 n) fun z9 =>
 sumF z9 (fun z9a =>
 bindF (loopF (fun go x=>f85_l3 a_M_0 a_M_1 a_M_2 a_M_3 n go x.1 x.2) fuelN (((bitsOf IntKind.u64 (fun p q=>p &&& q) z5.1 (1:Int)) == (1:Int)),(0:Int))) fun z13 =>
 bif z13 then
 bindF (f108 z5.1 z5.2.1 z5.2.2.1 z5.2.2.2 (1:Int) (0:Int) (0:Int) (0:Int)) fun r15 =>
 some (a_Neg,r15.1,r15.2.1,r15.2.2.1,r15.2.2.2)
 else
 some (a_Neg,z5.1,z5.2.1,z5.2.2.1,z5.2.2.2)) (fun z9b =>
 some (a_Neg,z5.1,z5.2.1,z5.2.2.1,z5.2.2.2))
def C85 : Con where
 X := Bool×Int×Int×Int×Int×Int
 Y := Bool×Int×Int×Int×Int
 e := 0
 args x := [.raw true [(.d .bool x.1),(.d T10 x.2.1),(.d T10 x.2.2.1),(.d T10 x.2.2.2.1),(.d T10 x.2.2.2.2.1)],.dat T1 x.2.2.2.2.2]
 hin x := []
 F x := f85 x.1 x.2.1 x.2.2.1 x.2.2.2.1 x.2.2.2.2.1 x.2.2.2.2.2
 ret y := [.raw true [(.d .bool y.1),(.d T10 y.2.1),(.d T10 y.2.2.1),(.d T10 y.2.2.2.1),(.d T10 y.2.2.2.2)]]
 hout y := []
 nout := 0
theorem C85_vc (a_Neg : Bool) (a_M_0:Int) (a_M_1:Int) (a_M_2:Int) (a_M_3:Int) (n:Int) (y : Bool×Int×Int×Int×Int) (hF : f85 a_Neg a_M_0 a_M_1 a_M_2 a_M_3 n = some y) : VC Tryz.f85 C85 (a_Neg,a_M_0,a_M_1,a_M_2,a_M_3,n) y := by
 unfold f85 at hF
 refine OL (OL (OL (OL (OL ?_))))
 obtain ⟨z5,hz5,hF⟩ := bindE hF
 refine loopI (Int×Int×Int×Int×Int) (Int×Int×Int×Int) (fun x=>⟨[(1,.dat T1 n),(2,P0 0 0),(4,P0 1 0),(5,P0 2 0),(6,.dat T1 x.1)],[(0,.cells [(.d .bool a_Neg),(.d T10 a_M_0),(.d T10 a_M_1),(.d T10 a_M_2),(.d T10 a_M_3)]),(1,.cells [(.d .bool false),(.d T10 (0:Int)),(.d T10 (0:Int)),(.d T10 (0:Int)),(.d T10 (0:Int))]),(2,.cells [(.d .bool a_Neg),(.d T10 x.2.1),(.d T10 x.2.2.1),(.d T10 x.2.2.2.1),(.d T10 x.2.2.2.2)])],3⟩) (fun z=>[(2,⟨[(1,.dat T1 n),(2,P0 0 0),(4,P0 1 0),(5,P0 2 0)],[(0,.cells [(.d .bool a_Neg),(.d T10 a_M_0),(.d T10 a_M_1),(.d T10 a_M_2),(.d T10 a_M_3)]),(1,.cells [(.d .bool false),(.d T10 (0:Int)),(.d T10 (0:Int)),(.d T10 (0:Int)),(.d T10 (0:Int))]),(2,.cells [(.d .bool a_Neg),(.d T10 z.1),(.d T10 z.2.1),(.d T10 z.2.2.1),(.d T10 z.2.2.2)])],3⟩)]) (loopF (fun go x=>f85_l1 a_M_0 a_M_1 a_M_2 a_M_3 n go x.1 x.2.1 x.2.2.1 x.2.2.2.1 x.2.2.2.2)) fuelN (n,(0:Int),(0:Int),(0:Int),(0:Int)) z5 (AI hz5 (AI (E4 [(0,some 0),(1,some 1),(2,some 2)] (R3 (AI (R3 TV) (R3 TV)))) (AI (fun _ _ h=>loopZ h) (AI (fun m=>curI (fun i=>curI (fun c2_1=>curI (fun c2_2=>curI (fun c2_3=>fun c2_4 z hF=>?_))))) ?_))))
 ·have hF : f85_l1 a_M_0 a_M_1 a_M_2 a_M_3 n (loopF (fun go x=>f85_l1 a_M_0 a_M_1 a_M_2 a_M_3 n go x.1 x.2.1 x.2.2.1 x.2.2.2.1 x.2.2.2.2) m) i c2_1 c2_2 c2_3 c2_4 = some z := hF
  unfold f85_l1 at hF
  refine OL (OL (condI hF (fun hF=>?_) (fun hF=>?_)))
  ·refine OL (OL ?_)
   obtain ⟨r6,hr6,hF⟩ := bindE hF
   refine OL (AI f112_in (callV0 (callI C112 (a_M_0,a_M_1,a_M_2,a_M_3,i) r6 [] false C112_holds hr6 rfl rfl (AI rfl (AI (fun h=>nomatch h) (R2 (AI (AI rfl TV) (AI TV (condI hF (fun hF=>?_) (fun hF=>?_))))))))))
   ·refine AI (by decide) (AI (by decide) (guardI hF (fun hF=>?_)))
    refine AI (fun hk7=>?_) ?_
    ·have hF := pickE hF hk7
     dsimp only [nthO] at hF
     refine AI (by decide) (guardI hF (fun hF=>?_))
     refine AI (rangeE hk7 (by decide)) (AI (fun _=>?_) (AI (fun h=>absurd (hk7.symm.trans h) (by decide)) (AI (fun h=>absurd (hk7.symm.trans h) (by decide)) (AI (fun h=>absurd (hk7.symm.trans h) (by decide)) TV))))
     refine OL (EI ((i64.wrap (i + (1:Int))),(bitsOf IntKind.u64 (fun p q=>p ||| q) c2_1 (u64.wrap ((1:Int) * 2 ^ min (Int.toNat (u64.wrap (Int.tmod (i64.wrap (i - n)) (64:Int)))) (IntKind.bits IntKind.u64)))),c2_2,c2_3,c2_4) (AI hF (E4 [(0,some 0),(1,some 1),(2,some 2)] (R3 (AI (R3 TV) (R3 TV))))))
    refine AI (fun hk7=>?_) ?_
    ·have hF := pickE hF hk7
     dsimp only [nthO] at hF
     refine AI (by decide) (guardI hF (fun hF=>?_))
     refine AI (rangeE hk7 (by decide)) (AI (fun h=>absurd (hk7.symm.trans h) (by decide)) ?_)
     refine AI (fun _=>?_) (AI (fun h=>absurd (hk7.symm.trans h) (by decide)) (AI (fun h=>absurd (hk7.symm.trans h) (by decide)) TV))
     refine OL (EI ((i64.wrap (i + (1:Int))),c2_1,(bitsOf IntKind.u64 (fun p q=>p ||| q) c2_2 (u64.wrap ((1:Int) * 2 ^ min (Int.toNat (u64.wrap (Int.tmod (i64.wrap (i - n)) (64:Int)))) (IntKind.bits IntKind.u64)))),c2_3,c2_4) (AI hF (E4 [(0,some 0),(1,some 1),(2,some 2)] (R3 (AI (R3 TV) (R3 TV))))))
    refine AI (fun hk7=>?_) ?_
    ·have hF := pickE hF hk7
     dsimp only [nthO] at hF
     refine AI (by decide) (guardI hF (fun hF=>?_))
     refine AI (rangeE hk7 (by decide)) (AI (fun h=>absurd (hk7.symm.trans h) (by decide)) ?_)
     refine AI (fun h=>absurd (hk7.symm.trans h) (by decide)) ?_
     refine AI (fun _=>?_) (AI (fun h=>absurd (hk7.symm.trans h) (by decide)) TV)
     refine OL (EI ((i64.wrap (i + (1:Int))),c2_1,c2_2,(bitsOf IntKind.u64 (fun p q=>p ||| q) c2_3 (u64.wrap ((1:Int) * 2 ^ min (Int.toNat (u64.wrap (Int.tmod (i64.wrap (i - n)) (64:Int)))) (IntKind.bits IntKind.u64)))),c2_4) (AI hF (E4 [(0,some 0),(1,some 1),(2,some 2)] (R3 (AI (R3 TV) (R3 TV))))))
    refine AI (fun hk7=>?_) TV
    have hF := pickE hF hk7
    dsimp only [nthO] at hF
    refine AI (by decide) (guardI hF (fun hF=>?_))
    refine AI (rangeE hk7 (by decide)) (AI (fun h=>absurd (hk7.symm.trans h) (by decide)) ?_)
    refine AI (fun h=>absurd (hk7.symm.trans h) (by decide)) ?_
    refine AI (fun h=>absurd (hk7.symm.trans h) (by decide)) ?_
    refine AI (fun _=>?_) TV
    refine OL (EI ((i64.wrap (i + (1:Int))),c2_1,c2_2,c2_3,(bitsOf IntKind.u64 (fun p q=>p ||| q) c2_4 (u64.wrap ((1:Int) * 2 ^ min (Int.toNat (u64.wrap (Int.tmod (i64.wrap (i - n)) (64:Int)))) (IntKind.bits IntKind.u64))))) (AI hF (E4 [(0,some 0),(1,some 1),(2,some 2)] (R3 (AI (R3 TV) (R3 TV))))))
   refine EI ((i64.wrap (i + (1:Int))),c2_1,c2_2,c2_3,c2_4) (AI hF (E4 [(0,some 0),(1,some 1),(2,some 2)] (R3 (AI (R3 TV) (R3 TV)))))
  have hz := someE hF
  subst hz
  refine E4 [(0,some 0),(1,some 1),(2,some 2)] (R2 (AI (R3 TV) (R3 TV)))
 refine AI ?_ TV
 obtain ⟨z9,hz9,hF⟩ := bindE hF
 refine OQ ⟨Sum.elim (fun z9a=>[(0,⟨[(1,.dat T1 n),(2,P0 0 0),(4,P0 1 0),(5,P0 2 0)],[(0,.cells [(.d .bool a_Neg),(.d T10 a_M_0),(.d T10 a_M_1),(.d T10 a_M_2),(.d T10 a_M_3)]),(1,.cells [(.d .bool false),(.d T10 (0:Int)),(.d T10 (0:Int)),(.d T10 (0:Int)),(.d T10 (0:Int))]),(2,.cells [(.d .bool a_Neg),(.d T10 z5.1),(.d T10 z5.2.1),(.d T10 z5.2.2.1),(.d T10 z5.2.2.2)])],3⟩)]) (fun z9b=>[(1,⟨[(4,P0 0 0)],[(0,.cells [(.d .bool a_Neg),(.d T10 z5.1),(.d T10 z5.2.1),(.d T10 z5.2.2.1),(.d T10 z5.2.2.2)])],1⟩)]) z9,?_,?_⟩
 ·have hF := hz9
  clear hz9
  unfold f85_j2 at hF
  refine OL (condN hF (fun hF=>?_) (fun hF=>?_))
  ·refine gdYF (gdYF (gdYF (gdYF ?_)))
   obtain ⟨r10,hr10,hF⟩ := bindE hF
   refine OL (AI f112_in (callV0 (callI C112 (a_M_0,a_M_1,a_M_2,a_M_3,(i64.wrap (n - (1:Int)))) r10 [] false C112_holds hr10 rfl rfl (AI rfl (AI (fun h=>nomatch h) (R2 (AI (AI rfl TV) (AI TV (gdYF (condF (condI hF (fun hF=>?_) (fun hF=>?_))))))))))))
   ·refine OL (OL ?_)
    have hz := someE hF
    subst hz
    refine E4 [(0,some 1)] (AI rfl (AI (AI rfl TV) (AI rfl TV)))
   have hz := someE hF
   subst hz
   refine E4 [(0,some 0),(1,some 1),(2,some 2)] (R2 (AI (R3 TV) (R3 TV)))
  refine gdNF (gdNF (gdNF (gdNF (gdNF (condT (condT (OL (OL ?_))))))))
  have hz := someE hF
  subst hz
  refine E4 [(0,some 1)] (AI rfl (AI (AI rfl TV) (AI rfl TV)))
 rcases z9 with z9a | z9b
 ·dsimp only [sumF] at hF
  refine AI (OL (AI (by decide) (AI (fun _=>?_) (AI (fun h=>absurd h (by decide)) (AI (fun h=>absurd h (by decide)) (AI (fun h=>absurd h (by decide)) TV)))))) TV
  refine OL (OL ?_)
  obtain ⟨z13,hz13,hF⟩ := bindE hF
  refine loopI (Bool×Int) Bool (fun x=>⟨[(1,.dat T1 n),(2,P0 0 0),(4,P0 1 0),(5,P0 2 0),(7,.dat .bool x.1),(8,.dat T1 x.2)],[(0,.cells [(.d .bool a_Neg),(.d T10 a_M_0),(.d T10 a_M_1),(.d T10 a_M_2),(.d T10 a_M_3)]),(1,.cells [(.d .bool false),(.d T10 (0:Int)),(.d T10 (0:Int)),(.d T10 (0:Int)),(.d T10 (0:Int))]),(2,.cells [(.d .bool a_Neg),(.d T10 z5.1),(.d T10 z5.2.1),(.d T10 z5.2.2.1),(.d T10 z5.2.2.2)])],3⟩) (fun z=>[(4,⟨[(4,P0 0 0),(5,P0 1 0),(7,.dat .bool z)],[(0,.cells [(.d .bool false),(.d T10 (0:Int)),(.d T10 (0:Int)),(.d T10 (0:Int)),(.d T10 (0:Int))]),(1,.cells [(.d .bool a_Neg),(.d T10 z5.1),(.d T10 z5.2.1),(.d T10 z5.2.2.1),(.d T10 z5.2.2.2)])],2⟩)]) (loopF (fun go x=>f85_l3 a_M_0 a_M_1 a_M_2 a_M_3 n go x.1 x.2)) fuelN (((bitsOf IntKind.u64 (fun p q=>p &&& q) z5.1 (1:Int)) == (1:Int)),(0:Int)) z13 (AI hz13 (AI (E4 [(0,some 0),(1,some 1),(2,some 2)] (R4 (AI (R3 TV) (R3 TV)))) (AI (fun _ _ h=>loopZ h) (AI (fun m=>curI (fun more=>fun i z hF=>?_)) ?_))))
  ·have hF : f85_l3 a_M_0 a_M_1 a_M_2 a_M_3 n (loopF (fun go x=>f85_l3 a_M_0 a_M_1 a_M_2 a_M_3 n go x.1 x.2) m) more i = some z := hF
   unfold f85_l3 at hF
   refine OL (OL (condI hF (fun hF=>?_) (fun hF=>?_)))
   ·refine OL (condN hF (fun hF=>?_) (fun hF=>?_))
    ·refine gdYF (gdYF (gdYF ?_))
     obtain ⟨r14,hr14,hF⟩ := bindE hF
     refine OL (AI f112_in (callV0 (callI C112 (a_M_0,a_M_1,a_M_2,a_M_3,i) r14 [] false C112_holds hr14 rfl rfl (AI rfl (AI (fun h=>nomatch h) (R2 (AI (AI rfl TV) (AI TV (gdYF (condF (EI ((r14 == (1:Int)),(i64.wrap (i + (1:Int)))) (AI hF (E4 [(0,some 0),(1,some 1),(2,some 2)] (R4 (AI (R3 TV) (R3 TV))))))))))))))))
    refine gdNF (gdNF (gdNF (gdNF (condT (EI (true,(i64.wrap (i + (1:Int)))) (AI hF (E4 [(0,some 0),(1,some 1),(2,some 2)] (R4 (AI (R3 TV) (R3 TV))))))))))
   have hz := someE hF
   subst hz
   refine E4 [(0,some 1),(1,some 2)] (R2 (AI (R2 TV) (R2 TV)))
  refine AI (OL (OL (condI hF (fun hF=>?_) (fun hF=>?_)))) TV
  ·obtain ⟨r15,hr15,hF⟩ := bindE hF
   refine OL (AI f108_in (callV0 (callI C108 (z5.1,z5.2.1,z5.2.2.1,z5.2.2.2,(1:Int),(0:Int),(0:Int),(0:Int)) r15 [] false C108_holds hr15 rfl rfl (AI (fun h=>nomatch h) (R2 (AI (R2 TV) (AI TV (OL (OL (OL ?_))))))))))
   have hy := someE hF
   subst hy
   refine AI rfl (E4 [] (AI rfl (AI (AI rfl TV) TV)))
  refine OL (OL ?_)
  have hy := someE hF
  subst hy
  refine AI rfl (E4 [] (AI rfl (AI (AI rfl TV) TV)))
 dsimp only [sumF] at hF
 refine AI ?_ TV
 have hy := someE hF
 subst hy
 refine AI rfl (E4 [] (AI rfl (AI (AI rfl TV) TV)))
theorem C85_holds : C85.Holds Tryz.prog 85 := holds_of_vc tab_ok mixed (fn := Tryz.f85) (by kernel_rfl) rfl C85 (fun x y hF=>C85_vc x.1 x.2.1 x.2.2.1 x.2.2.2.1 x.2.2.2.2.1 x.2.2.2.2.2 y hF)
theorem f85_in : InP 85 := ⟨Tryz.f85,by kernel_rfl,by kernel_rfl,by kernel_rfl⟩
def f57 (a:Int) (b:Int) : Option Int :=
 bindF (f86 a b) fun r1 =>
 bindF (f85 r1.1 r1.2.1 r1.2.2.1 r1.2.2.2.1 r1.2.2.2.2 (32:Int)) fun r2 =>
 bindF (f81 r2.1 r2.2.1 r2.2.2.1 r2.2.2.2.1 r2.2.2.2.2) fun r3 =>
 some r3
def C57 : Con where
 X := Int×Int
 Y := Int
 e := 0
 args x := [.dat T1 x.1,.dat T1 x.2]
 hin x := []
 F x := f57 x.1 x.2
 ret y := [.dat T1 y]
 hout y := []
 nout := 0
theorem C57_vc (a:Int) (b:Int) (y:Int) (hF : f57 a b = some y) : VC Tryz.f57 C57 (a,b) y := by
 unfold f57 at hF
 refine OL (OL ?_)
 obtain ⟨r1,hr1,hF⟩ := bindE hF
 refine OL (AI f86_in (callV0 (callI C86 (a,b) r1 [] false C86_holds hr1 rfl rfl (R2 (AI (fun h=>nomatch h) (R2 (AI TV (AI TV ?_))))))))
 obtain ⟨r2,hr2,hF⟩ := bindE hF
 refine OL (AI f85_in (callV0 (callI C85 (r1.1,r1.2.1,r1.2.2.1,r1.2.2.2.1,r1.2.2.2.2,(32:Int)) r2 [] false C85_holds hr2 rfl rfl (AI rfl (AI (fun h=>nomatch h) (R2 (AI (AI rfl TV) (AI TV ?_))))))))
 obtain ⟨r3,hr3,hF⟩ := bindE hF
 refine OL (AI f81_in (callV0 (callI C81 (r2.1,r2.2.1,r2.2.2.1,r2.2.2.2.1,r2.2.2.2.2) r3 [] false C81_holds hr3 rfl rfl (AI (fun h=>nomatch h) (R2 (AI (AI rfl TV) (AI TV ?_)))))))
 have hy := someE hF
 subst hy
 refine AI rfl (E4 [] (R2 (AI TV TV)))
theorem C57_holds : C57.Holds Tryz.prog 57 := holds_of_vc tab_ok mixed (fn := Tryz.f57) (by kernel_rfl) rfl C57 (fun x y hF=>C57_vc x.1 x.2 y hF)
theorem f57_in : InP 57 := ⟨Tryz.f57,by kernel_rfl,by kernel_rfl,by kernel_rfl⟩
def f30_j3 (a : (List Int)×(List Int)) (b : (List Int)×(List Int)) : Option Bool :=
 bindF (f51 (a.1,a.2)) fun r9 =>
 bif (!r9) then
 some true
 else
 bindF (f51 (b.1,b.2)) fun r10 =>
 some (!r10)
def f30_j2 (a : (List Int)×(List Int)) (b : (List Int)×(List Int)) : Option (Sum Unit Unit) :=
 bindF (f30_j3 a b) fun z8 =>
 bif z8 then
 some (Sum.inr ())
 else
 some (Sum.inl ())
def f30_l4 (op:Int) (a : (List Int)×(List Int)) (b : (List Int)×(List Int)) (r11 : Int×(List Int)) (go : (Int×(List Int)) → Option (List Int)) (i:Int) (l6 : List Int) : Option (List Int) :=
 bif (decide (i < (List.length l6:Int))) then
 bindF (f54 a.1 r11.2 i) fun r18 =>
 bindF (f54 b.1 r11.2 i) fun r19 =>
 bif (op == (0:Int)) then
 guardF (0 ≤ r18.1 ∧ r18.1 < (List.length a.2:Int)) <|
 guardF (0 ≤ r19.1 ∧ r19.1 < (List.length b.2:Int)) <|
 bindF (f55 (rd (0:Int) a.2 r18.1) (rd (0:Int) b.2 r19.1)) fun q15_13 =>
 guardF (0 ≤ i ∧ i < (List.length l6:Int)) <|
 go ((i64.wrap (i + (1:Int))),(List.set l6 (Int.toNat i) q15_13))
 else
 bif (op == (1:Int)) then
 guardF (0 ≤ r18.1 ∧ r18.1 < (List.length a.2:Int)) <|
 guardF (0 ≤ r19.1 ∧ r19.1 < (List.length b.2:Int)) <|
 bindF (f56 (rd (0:Int) a.2 r18.1) (rd (0:Int) b.2 r19.1)) fun q17_13 =>
 guardF (0 ≤ i ∧ i < (List.length l6:Int)) <|
 go ((i64.wrap (i + (1:Int))),(List.set l6 (Int.toNat i) q17_13))
 else
 guardF (0 ≤ r18.1 ∧ r18.1 < (List.length a.2:Int)) <|
 guardF (0 ≤ r19.1 ∧ r19.1 < (List.length b.2:Int)) <|
 bindF (f57 (rd (0:Int) a.2 r18.1) (rd (0:Int) b.2 r19.1)) fun q13_13 =>
 guardF (0 ≤ i ∧ i < (List.length l6:Int)) <|
 go ((i64.wrap (i + (1:Int))),(List.set l6 (Int.toNat i) q13_13))
 else
 some l6
def f30 (op:Int) (a : (List Int)×(List Int)) (b : (List Int)×(List Int)) : Option (Int×(List Int)×(List Int)) :=
 bindF (f30_j2 a b) fun z5 =>
 sumF z5 (fun z5a =>
 bindF (f53 a.1 b.1) fun r11 =>
 bif (r11.1 != (0:Int)) then
 some (r11.1,[],[])
 else
 bindF (f28 r11.2 (0:Int)) fun r12 =>
 bindF (loopF (fun go x=>f30_l4 op a b r11 go x.1 x.2) fuelN ((0:Int),r12.2)) fun z17 =>
 some ((0:Int),r12.1,z17)) (fun z5b =>
 some ((1:Int),[],[]))
def C30 : Con where
 X := Int×((List Int)×(List Int))×((List Int)×(List Int))
 Y := Int×(List Int)×(List Int)
 e := 0
 args x := [.dat T1 x.1,.dat T9 x.2.1,.dat T9 x.2.2]
 hin x := []
 F x := f30 x.1 x.2.1 x.2.2
 ret y := [.raw true [(.osl 0),(.osl 1)],.dat T1 y.1]
 hout y := [(0,.arr 3 T1 y.2.1),(1,.arr 57 T1 y.2.2)]
 nout := 2
theorem C30_vc (op:Int) (a : (List Int)×(List Int)) (b : (List Int)×(List Int)) (y : Int×(List Int)×(List Int)) (hF : f30 op a b = some y) : VC Tryz.f30 C30 (op,a,b) y := by
 unfold f30 at hF
 refine OL ?_
 obtain ⟨z5,hz5,hF⟩ := bindE hF
 refine OQ ⟨Sum.elim (fun z5a=>[(0,⟨[(0,.dat T1 op),(4,P0 0 0),(5,P0 1 0),(6,P0 2 0)],[(0,.cells [(.d T6 a.1),(.d T6 a.2)]),(1,.cells [(.d T6 b.1),(.d T6 b.2)]),(2,.cells [N0,N0])],3⟩)]) (fun z5b=>[(1,⟨[(6,P0 0 0),(7,D0 1)],[(0,.cells [N0,N0])],1⟩)]) z5,?_,?_⟩
 ·have hF := hz5
  clear hz5
  unfold f30_j2 at hF
  obtain ⟨z8,hz8,hF⟩ := bindE hF
  refine OQ ⟨[(0,⟨[(0,.dat T1 op),(4,P0 0 0),(5,P0 1 0),(6,P0 2 0),(23,.dat .bool z8)],[(0,.cells [(.d T6 a.1),(.d T6 a.2)]),(1,.cells [(.d T6 b.1),(.d T6 b.2)]),(2,.cells [N0,N0])],3⟩)],?_,?_⟩
  ·have hF := hz8
   clear hz8
   unfold f30_j3 at hF
   obtain ⟨r9,hr9,hF⟩ := bindE hF
   refine OL (AI f51_in (callV0 (callI C51 (a.1,a.2) r9 [] false C51_holds hr9 rfl rfl (R2 (AI (fun h=>nomatch h) (R2 (AI TV (AI TV (condN hF (fun hF=>?_) (fun hF=>?_))))))))))
   ·refine gdYF ?_
    obtain ⟨r10,hr10,hF⟩ := bindE hF
    refine OL (AI f51_in (callV0 (callI C51 (b.1,b.2) r10 [] false C51_holds hr10 rfl rfl (R2 (AI (fun h=>nomatch h) (R2 (AI TV (AI TV (gdYF (condF ?_))))))))))
    have hz := someE hF
    subst hz
    refine E4 [(0,some 0),(1,some 1),(2,some 2)] (R3 (AI (R3 TV) (R3 TV)))
   refine gdNF (gdNF (condT ?_))
   have hz := someE hF
   subst hz
   refine E4 [(0,some 0),(1,some 1),(2,some 2)] (R3 (AI (R3 TV) (R3 TV)))
  refine AI (condI hF (fun hF=>?_) (fun hF=>?_)) TV
  ·refine OL (OL ?_)
   have hz := someE hF
   subst hz
   refine E4 [(0,some 2)] (R2 (AI (AI rfl TV) (AI rfl TV)))
  have hz := someE hF
  subst hz
  refine E4 [(0,some 0),(1,some 1),(2,some 2)] (R2 (AI (R3 TV) (R3 TV)))
 rcases z5 with z5a | z5b
 ·dsimp only [sumF] at hF
  refine AI (OL ?_) TV
  obtain ⟨r11,hr11,hF⟩ := bindE hF
  refine OL (AI f53_in (callV0 (callI C53 (a.1,b.1) r11 [] false C53_holds hr11 rfl rfl (R2 (AI (fun h=>nomatch h) (R2 (AI TV (AI TV (OL (OL (condI hF (fun hF=>?_) (fun hF=>?_))))))))))))
  ·refine OL (OL ?_)
   have hy := someE hF
   subst hy
   refine AI rfl (E4 [(0,none),(1,none)] (R2 (AI (AI rfl TV) (R2 TV))))
  refine OL ?_
  obtain ⟨r12,hr12,hF⟩ := bindE hF
  refine OL (AI f28_in (callV0 (callI C28 (r11.2,(0:Int)) r12 [] true C28_holds hr12 rfl rfl (R2 (AI (fun _=>rfl) (R2 (AI TV (AI TV (OL (OL (OL ?_)))))))))))
  obtain ⟨z17,hz17,hF⟩ := bindE hF
  refine loopI (Int×(List Int)) (List Int) (fun x=>⟨[(0,.dat T1 op),(4,P0 0 0),(5,P0 1 0),(6,P0 2 0),(8,O0 3),(10,P0 4 0),(11,.dat T1 x.1)],[(0,.cells [(.d T6 a.1),(.d T6 a.2)]),(1,.cells [(.d T6 b.1),(.d T6 b.2)]),(2,.cells [N0,N0]),(3,.arr 3 T1 r11.2),(4,.cells [(.osl 5),(.osl 6)]),(5,.arr 3 T1 r12.1),(6,.arr 57 T1 x.2)],7⟩) (fun z=>[(2,⟨[(6,P0 0 0),(10,P0 1 0)],[(0,.cells [N0,N0]),(1,.cells [(.osl 2),(.osl 3)]),(2,.arr 3 T1 r12.1),(3,.arr 57 T1 z)],4⟩)]) (loopF (fun go x=>f30_l4 op a b r11 go x.1 x.2)) fuelN ((0:Int),r12.2) z17 (AI hz17 (AI (E4 [(0,some 0),(1,some 1),(2,some 2),(3,some 3),(4,some 6),(5,some 4),(6,some 5)] (R3 (AI (R5 TV) (R7 TV)))) (AI (fun _ _ h=>loopZ h) (AI (fun m=>curI (fun i=>fun l6 z hF=>?_)) ?_))))
  ·have hF : f30_l4 op a b r11 (loopF (fun go x=>f30_l4 op a b r11 go x.1 x.2) m) i l6 = some z := hF
   unfold f30_l4 at hF
   refine OL (OL (condI hF (fun hF=>?_) (fun hF=>?_)))
   ·refine OL (OL ?_)
    obtain ⟨r18,hr18,hF⟩ := bindE hF
    refine OL (AI f54_in (callV0 (callI C54 (a.1,r11.2,i) r18 [] true C54_holds hr18 rfl rfl (R3 (AI (fun _=>rfl) (R2 (AI TV (AI TV (OL ?_)))))))))
    obtain ⟨r19,hr19,hF⟩ := bindE hF
    refine OL (AI f54_in (callV0 (callI C54 (b.1,r11.2,i) r19 [] true C54_holds hr19 rfl rfl (R3 (AI (fun _=>rfl) (R2 (AI TV (AI TV (OL (OL (condI hF (fun hF=>?_) (fun hF=>?_))))))))))))
    ·refine EI (.take 0 (.take 1 (.take 2 (.take 3 (.take 4 (.take 5 (.take 6 (.take 7 (.take 8 (.take 9 (.take 10 (.take 11 (.take 12 (.alt 13 (.take 14 (.alt 15 .done .done)) .done)))))))))))))) (EI [] (EI [] (AI rfl (guardI hF (fun hF=>?_)))))
     refine guardI hF (fun hF=>?_)
     refine AI TV ?_
     obtain ⟨q15_13,hq15_13,hF⟩ := bindE hF
     refine OL (AI f55_in (callV0 (callI C55 ((rd (0:Int) a.2 r18.1),(rd (0:Int) b.2 r19.1)) q15_13 [] false C55_holds hq15_13 rfl rfl (R2 (AI (fun h=>nomatch h) (R2 (AI TV (AI TV (guardI hF (fun hF=>?_))))))))))
     refine AI TV (OL (EI ((i64.wrap (i + (1:Int))),(List.set l6 (Int.toNat i) q15_13)) (AI hF (E4 [(0,some 0),(1,some 1),(2,some 2),(3,some 3),(4,some 4),(5,some 5),(6,some 6)] (R3 (AI (R5 TV) (R7 TV)))))))
    refine OL (condI hF (fun hF=>?_) (fun hF=>?_))
    ·refine EI (.take 0 (.take 1 (.take 2 (.take 3 (.take 4 (.take 5 (.take 6 (.take 7 (.take 8 (.take 9 (.take 10 (.take 11 (.take 12 (.alt 13 (.take 14 (.alt 15 .done .done)) .done)))))))))))))) (EI [] (EI [] (AI rfl (guardI hF (fun hF=>?_)))))
     refine guardI hF (fun hF=>?_)
     refine AI TV ?_
     obtain ⟨q17_13,hq17_13,hF⟩ := bindE hF
     refine OL (AI f56_in (callV0 (callI C56 ((rd (0:Int) a.2 r18.1),(rd (0:Int) b.2 r19.1)) q17_13 [] false C56_holds hq17_13 rfl rfl (R2 (AI (fun h=>nomatch h) (R2 (AI TV (AI TV (guardI hF (fun hF=>?_))))))))))
     refine AI TV (OL (EI ((i64.wrap (i + (1:Int))),(List.set l6 (Int.toNat i) q17_13)) (AI hF (E4 [(0,some 0),(1,some 1),(2,some 2),(3,some 3),(4,some 4),(5,some 5),(6,some 6)] (R3 (AI (R5 TV) (R7 TV)))))))
    refine EI (.take 0 (.take 1 (.take 2 (.take 3 (.take 4 (.take 5 (.take 6 (.take 7 (.take 8 (.take 9 (.take 10 (.take 11 (.take 12 (.alt 13 (.take 14 (.alt 15 .done .done)) .done)))))))))))))) (EI [] (EI [] (AI rfl (guardI hF (fun hF=>?_)))))
    refine guardI hF (fun hF=>?_)
    refine AI TV ?_
    obtain ⟨q13_13,hq13_13,hF⟩ := bindE hF
    refine OL (AI f57_in (callV0 (callI C57 ((rd (0:Int) a.2 r18.1),(rd (0:Int) b.2 r19.1)) q13_13 [] false C57_holds hq13_13 rfl rfl (R2 (AI (fun h=>nomatch h) (R2 (AI TV (AI TV (guardI hF (fun hF=>?_))))))))))
    refine AI TV (OL (EI ((i64.wrap (i + (1:Int))),(List.set l6 (Int.toNat i) q13_13)) (AI hF (E4 [(0,some 0),(1,some 1),(2,some 2),(3,some 3),(4,some 4),(5,some 5),(6,some 6)] (R3 (AI (R5 TV) (R7 TV)))))))
   have hz := someE hF
   subst hz
   refine E4 [(0,some 2),(1,some 4),(2,some 5),(3,some 6)] (AI rfl (AI (R2 TV) (R4 TV)))
  refine AI (OL (OL ?_)) TV
  have hy := someE hF
  subst hy
  refine AI rfl (E4 [(0,some 2),(1,some 3)] (R2 (AI (AI rfl TV) (R2 TV))))
 dsimp only [sumF] at hF
 refine AI ?_ TV
 have hy := someE hF
 subst hy
 refine AI rfl (E4 [(0,none),(1,none)] (R2 (AI (AI rfl TV) (R2 TV))))
theorem C30_holds : C30.Holds Tryz.prog 30 := holds_of_vc tab_ok mixed (fn := Tryz.f30) (by kernel_rfl) rfl C30 (fun x y hF=>C30_vc x.1 x.2.1 x.2.2 y hF)
theorem f30_in : InP 30 := ⟨Tryz.f30,by kernel_rfl,by kernel_rfl,by kernel_rfl⟩
def f106_j4 (r1:Int) (rest:Int) (r9:Int) : Option Bool :=
 bif ((Int.fdiv rest (2 ^ min (Int.toNat (63:Int)) (IntKind.bits IntKind.u64))) == (1:Int)) then
 some true
 else
 some (decide ((bitsOf IntKind.u64 (fun p q=>p ||| q) (u64.wrap (rest * 2 ^ min (Int.toNat (1:Int)) (IntKind.bits IntKind.u64))) r9) ≥ r1))
def f106_l3 (a_M_0:Int) (a_M_1:Int) (a_M_2:Int) (a_M_3:Int) (r1:Int) (go : (Int×Int×Int×Int×Int×Int) → Option (Int×Int×Int×Int×Int)) (rest:Int) (i:Int) (c2_1:Int) (c2_2:Int) (c2_3:Int) (c2_4:Int) : Option (Int×Int×Int×Int×Int) :=
 bif (decide (i ≥ (0:Int))) then
 bindF (f112 a_M_0 a_M_1 a_M_2 a_M_3 i) fun r9 =>
 bindF (f106_j4 r1 rest r9) fun z10 =>
 bif z10 then
 guardF (0 ≤ (i64.wrap (Int.tdiv i (64:Int))) ∧ (i64.wrap (Int.tdiv i (64:Int))) < (4:Int)) <|
 pickF (i64.wrap (Int.tdiv i (64:Int)))
 [(guardF (0 ≤ (u64.wrap (Int.tmod i (64:Int)))) <|
 go ((u64.wrap ((bitsOf IntKind.u64 (fun p q=>p ||| q) (u64.wrap (rest * 2 ^ min (Int.toNat (1:Int)) (IntKind.bits IntKind.u64))) r9) - r1)),(i64.wrap (i - (1:Int))),(bitsOf IntKind.u64 (fun p q=>p ||| q) c2_1 (u64.wrap ((1:Int) * 2 ^ min (Int.toNat (u64.wrap (Int.tmod i (64:Int)))) (IntKind.bits IntKind.u64)))),c2_2,c2_3,c2_4)),
 (guardF (0 ≤ (u64.wrap (Int.tmod i (64:Int)))) <|
 go ((u64.wrap ((bitsOf IntKind.u64 (fun p q=>p ||| q) (u64.wrap (rest * 2 ^ min (Int.toNat (1:Int)) (IntKind.bits IntKind.u64))) r9) - r1)),(i64.wrap (i - (1:Int))),c2_1,(bitsOf IntKind.u64 (fun p q=>p ||| q) c2_2 (u64.wrap ((1:Int) * 2 ^ min (Int.toNat (u64.wrap (Int.tmod i (64:Int)))) (IntKind.bits IntKind.u64)))),c2_3,c2_4)),
 (guardF (0 ≤ (u64.wrap (Int.tmod i (64:Int)))) <|
 go ((u64.wrap ((bitsOf IntKind.u64 (fun p q=>p ||| q) (u64.wrap (rest * 2 ^ min (Int.toNat (1:Int)) (IntKind.bits IntKind.u64))) r9) - r1)),(i64.wrap (i - (1:Int))),c2_1,c2_2,(bitsOf IntKind.u64 (fun p q=>p ||| q) c2_3 (u64.wrap ((1:Int) * 2 ^ min (Int.toNat (u64.wrap (Int.tmod i (64:Int)))) (IntKind.bits IntKind.u64)))),c2_4)),
 (guardF (0 ≤ (u64.wrap (Int.tmod i (64:Int)))) <|
 go ((u64.wrap ((bitsOf IntKind.u64 (fun p q=>p ||| q) (u64.wrap (rest * 2 ^ min (Int.toNat (1:Int)) (IntKind.bits IntKind.u64))) r9) - r1)),(i64.wrap (i - (1:Int))),c2_1,c2_2,c2_3,(bitsOf IntKind.u64 (fun p q=>p ||| q) c2_4 (u64.wrap ((1:Int) * 2 ^ min (Int.toNat (u64.wrap (Int.tmod i (64:Int)))) (IntKind.bits IntKind.u64))))))]
 else
 go ((bitsOf IntKind.u64 (fun p q=>p ||| q) (u64.wrap (rest * 2 ^ min (Int.toNat (1:Int)) (IntKind.bits IntKind.u64))) r9),(i64.wrap (i - (1:Int))),c2_1,c2_2,c2_3,c2_4)
 else
 some (rest,c2_1,c2_2,c2_3,c2_4)
def f106_j5 (r1:Int) (z8 : Int×Int×Int×Int×Int) : Option Bool :=
 bif (decide (z8.1 > (u64.wrap (r1 - z8.1)))) then
 some true
 else
 bif (z8.1 == (u64.wrap (r1 - z8.1))) then
 some ((bitsOf IntKind.u64 (fun p q=>p &&& q) z8.2.1 (1:Int)) == (1:Int))
 else
 some false
def f106 (a_Neg : Bool) (a_M_0:Int) (a_M_1:Int) (a_M_2:Int) (a_M_3:Int) (by_:Int) : Option (Bool×Int×Int×Int×Int) :=
 bindF (f111 by_) fun r1 =>
 bindF (loopF (fun go x=>f106_l3 a_M_0 a_M_1 a_M_2 a_M_3 r1 go x.1 x.2.1 x.2.2.1 x.2.2.2.1 x.2.2.2.2.1 x.2.2.2.2.2) fuelN ((0:Int),(255:Int),(0:Int),(0:Int),(0:Int),(0:Int))) fun z8 =>
 bindF (f106_j5 r1 z8) fun z12 =>
 bif z12 then
 bindF (f108 z8.2.1 z8.2.2.1 z8.2.2.2.1 z8.2.2.2.2 (1:Int) (0:Int) (0:Int) (0:Int)) fun r13 =>
 some ((!(a_Neg == (decide (by_ < (0:Int))))),r13.1,r13.2.1,r13.2.2.1,r13.2.2.2)
 else
 some ((!(a_Neg == (decide (by_ < (0:Int))))),z8.2.1,z8.2.2.1,z8.2.2.2.1,z8.2.2.2.2)
def C106 : Con where
 X := Bool×Int×Int×Int×Int×Int
 Y := Bool×Int×Int×Int×Int
 e := 0
 args x := [.raw true [(.d .bool x.1),(.d T10 x.2.1),(.d T10 x.2.2.1),(.d T10 x.2.2.2.1),(.d T10 x.2.2.2.2.1)],.dat T1 x.2.2.2.2.2]
 hin x := []
 F x := f106 x.1 x.2.1 x.2.2.1 x.2.2.2.1 x.2.2.2.2.1 x.2.2.2.2.2
 ret y := [.raw true [(.d .bool y.1),(.d T10 y.2.1),(.d T10 y.2.2.1),(.d T10 y.2.2.2.1),(.d T10 y.2.2.2.2)]]
 hout y := []
 nout := 0
theorem C106_vc (a_Neg : Bool) (a_M_0:Int) (a_M_1:Int) (a_M_2:Int) (a_M_3:Int) (by_:Int) (y : Bool×Int×Int×Int×Int) (hF : f106 a_Neg a_M_0 a_M_1 a_M_2 a_M_3 by_ = some y) : VC Tryz.f106 C106 (a_Neg,a_M_0,a_M_1,a_M_2,a_M_3,by_) y := by
 unfold f106 at hF
 refine OL (OL ?_)
 obtain ⟨r1,hr1,hF⟩ := bindE hF
 refine OL (AI f111_in (callV0 (callI C111 by_ r1 [] false C111_holds hr1 rfl rfl (AI rfl (AI (fun h=>nomatch h) (R2 (AI TV (AI TV (OL (OL (OL (OL (OL ?_)))))))))))))
 obtain ⟨z8,hz8,hF⟩ := bindE hF
 refine loopI (Int×Int×Int×Int×Int×Int) (Int×Int×Int×Int×Int) (fun x=>⟨[(2,P0 0 0),(4,P0 1 0),(5,.dat T10 r1),(6,P0 2 0),(7,.dat T10 x.1),(8,.dat T1 x.2.1)],[(0,.cells [(.d .bool a_Neg),(.d T10 a_M_0),(.d T10 a_M_1),(.d T10 a_M_2),(.d T10 a_M_3)]),(1,.cells [(.d .bool false),(.d T10 (0:Int)),(.d T10 (0:Int)),(.d T10 (0:Int)),(.d T10 (0:Int))]),(2,.cells [(.d .bool (!(a_Neg == (decide (by_ < (0:Int)))))),(.d T10 x.2.2.1),(.d T10 x.2.2.2.1),(.d T10 x.2.2.2.2.1),(.d T10 x.2.2.2.2.2)])],3⟩) (fun z=>[(2,⟨[(4,P0 0 0),(5,.dat T10 r1),(6,P0 1 0),(7,.dat T10 z.1)],[(0,.cells [(.d .bool false),(.d T10 (0:Int)),(.d T10 (0:Int)),(.d T10 (0:Int)),(.d T10 (0:Int))]),(1,.cells [(.d .bool (!(a_Neg == (decide (by_ < (0:Int)))))),(.d T10 z.2.1),(.d T10 z.2.2.1),(.d T10 z.2.2.2.1),(.d T10 z.2.2.2.2)])],2⟩)]) (loopF (fun go x=>f106_l3 a_M_0 a_M_1 a_M_2 a_M_3 r1 go x.1 x.2.1 x.2.2.1 x.2.2.2.1 x.2.2.2.2.1 x.2.2.2.2.2)) fuelN ((0:Int),(255:Int),(0:Int),(0:Int),(0:Int),(0:Int)) z8 (AI hz8 (AI (E4 [(0,some 0),(1,some 1),(2,some 2)] (R4 (AI (R3 TV) (R3 TV)))) (AI (fun _ _ h=>loopZ h) (AI (fun m=>curI (fun rest=>curI (fun i=>curI (fun c2_1=>curI (fun c2_2=>curI (fun c2_3=>fun c2_4 z hF=>?_)))))) ?_))))
 ·have hF : f106_l3 a_M_0 a_M_1 a_M_2 a_M_3 r1 (loopF (fun go x=>f106_l3 a_M_0 a_M_1 a_M_2 a_M_3 r1 go x.1 x.2.1 x.2.2.1 x.2.2.2.1 x.2.2.2.2.1 x.2.2.2.2.2) m) rest i c2_1 c2_2 c2_3 c2_4 = some z := hF
  unfold f106_l3 at hF
  refine OL (OL (condI hF (fun hF=>?_) (fun hF=>?_)))
  ·refine OL (OL (AI (by decide) (OL (AI (by decide) ?_))))
   obtain ⟨r9,hr9,hF⟩ := bindE hF
   refine OL (AI f112_in (callV0 (callI C112 (a_M_0,a_M_1,a_M_2,a_M_3,i) r9 [] false C112_holds hr9 rfl rfl (AI rfl (AI (fun h=>nomatch h) (R2 (AI (AI rfl TV) (AI TV ?_))))))))
   obtain ⟨z10,hz10,hF⟩ := bindE hF
   refine OQ ⟨[(0,⟨[(2,P0 0 0),(4,P0 1 0),(5,.dat T10 r1),(6,P0 2 0),(7,.dat T10 (bitsOf IntKind.u64 (fun p q=>p ||| q) (u64.wrap (rest * 2 ^ min (Int.toNat (1:Int)) (IntKind.bits IntKind.u64))) r9)),(8,.dat T1 i),(37,.dat .bool z10)],[(0,.cells [(.d .bool a_Neg),(.d T10 a_M_0),(.d T10 a_M_1),(.d T10 a_M_2),(.d T10 a_M_3)]),(1,.cells [(.d .bool false),(.d T10 (0:Int)),(.d T10 (0:Int)),(.d T10 (0:Int)),(.d T10 (0:Int))]),(2,.cells [(.d .bool (!(a_Neg == (decide (by_ < (0:Int)))))),(.d T10 c2_1),(.d T10 c2_2),(.d T10 c2_3),(.d T10 c2_4)])],3⟩)],?_,?_⟩
   ·have hF := hz10
    clear hz10
    unfold f106_j4 at hF
    refine condN hF (fun hF=>?_) (fun hF=>?_)
    ·refine gdYF (gdYF (condF ?_))
     have hz := someE hF
     subst hz
     refine E4 [(0,some 0),(1,some 1),(2,some 2)] (R5 (AI (R3 TV) (R3 TV)))
    refine gdNF (gdNF (condT ?_))
    have hz := someE hF
    subst hz
    refine E4 [(0,some 0),(1,some 1),(2,some 2)] (R5 (AI (R3 TV) (R3 TV)))
   refine AI (condI hF (fun hF=>?_) (fun hF=>?_)) TV
   ·refine OL (AI (by decide) (AI (by decide) (guardI hF (fun hF=>?_))))
    refine AI (fun hk11=>?_) ?_
    ·have hF := pickE hF hk11
     dsimp only [nthO] at hF
     refine AI (by decide) (guardI hF (fun hF=>?_))
     refine AI (rangeE hk11 (by decide)) (AI (fun _=>?_) (AI (fun h=>absurd (hk11.symm.trans h) (by decide)) (AI (fun h=>absurd (hk11.symm.trans h) (by decide)) (AI (fun h=>absurd (hk11.symm.trans h) (by decide)) TV))))
     refine OL (EI ((u64.wrap ((bitsOf IntKind.u64 (fun p q=>p ||| q) (u64.wrap (rest * 2 ^ min (Int.toNat (1:Int)) (IntKind.bits IntKind.u64))) r9) - r1)),(i64.wrap (i - (1:Int))),(bitsOf IntKind.u64 (fun p q=>p ||| q) c2_1 (u64.wrap ((1:Int) * 2 ^ min (Int.toNat (u64.wrap (Int.tmod i (64:Int)))) (IntKind.bits IntKind.u64)))),c2_2,c2_3,c2_4) (AI hF (E4 [(0,some 0),(1,some 1),(2,some 2)] (R4 (AI (R3 TV) (R3 TV))))))
    refine AI (fun hk11=>?_) ?_
    ·have hF := pickE hF hk11
     dsimp only [nthO] at hF
     refine AI (by decide) (guardI hF (fun hF=>?_))
     refine AI (rangeE hk11 (by decide)) (AI (fun h=>absurd (hk11.symm.trans h) (by decide)) ?_)
     refine AI (fun _=>?_) (AI (fun h=>absurd (hk11.symm.trans h) (by decide)) (AI (fun h=>absurd (hk11.symm.trans h) (by decide)) TV))
     refine OL (EI ((u64.wrap ((bitsOf IntKind.u64 (fun p q=>p ||| q) (u64.wrap (rest * 2 ^ min (Int.toNat (1:Int)) (IntKind.bits IntKind.u64))) r9) - r1)),(i64.wrap (i - (1:Int))),c2_1,(bitsOf IntKind.u64 (fun p q=>p ||| q) c2_2 (u64.wrap ((1:Int) * 2 ^ min (Int.toNat (u64.wrap (Int.tmod i (64:Int)))) (IntKind.bits IntKind.u64)))),c2_3,c2_4) (AI hF (E4 [(0,some 0),(1,some 1),(2,some 2)] (R4 (AI (R3 TV) (R3 TV))))))
    refine AI (fun hk11=>?_) ?_
    ·have hF := pickE hF hk11
     dsimp only [nthO] at hF
     refine AI (by decide) (guardI hF (fun hF=>?_))
     refine AI (rangeE hk11 (by decide)) (AI (fun h=>absurd (hk11.symm.trans h) (by decide)) ?_)
     refine AI (fun h=>absurd (hk11.symm.trans h) (by decide)) ?_
     refine AI (fun _=>?_) (AI (fun h=>absurd (hk11.symm.trans h) (by decide)) TV)
     refine OL (EI ((u64.wrap ((bitsOf IntKind.u64 (fun p q=>p ||| q) (u64.wrap (rest * 2 ^ min (Int.toNat (1:Int)) (IntKind.bits IntKind.u64))) r9) - r1)),(i64.wrap (i - (1:Int))),c2_1,c2_2,(bitsOf IntKind.u64 (fun p q=>p ||| q) c2_3 (u64.wrap ((1:Int) * 2 ^ min (Int.toNat (u64.wrap (Int.tmod i (64:Int)))) (IntKind.bits IntKind.u64)))),c2_4) (AI hF (E4 [(0,some 0),(1,some 1),(2,some 2)] (R4 (AI (R3 TV) (R3 TV))))))
    refine AI (fun hk11=>?_) TV
    have hF := pickE hF hk11
    dsimp only [nthO] at hF
    refine AI (by decide) (guardI hF (fun hF=>?_))
    refine AI (rangeE hk11 (by decide)) (AI (fun h=>absurd (hk11.symm.trans h) (by decide)) ?_)
    refine AI (fun h=>absurd (hk11.symm.trans h) (by decide)) ?_
    refine AI (fun h=>absurd (hk11.symm.trans h) (by decide)) ?_
    refine AI (fun _=>?_) TV
    refine OL (EI ((u64.wrap ((bitsOf IntKind.u64 (fun p q=>p ||| q) (u64.wrap (rest * 2 ^ min (Int.toNat (1:Int)) (IntKind.bits IntKind.u64))) r9) - r1)),(i64.wrap (i - (1:Int))),c2_1,c2_2,c2_3,(bitsOf IntKind.u64 (fun p q=>p ||| q) c2_4 (u64.wrap ((1:Int) * 2 ^ min (Int.toNat (u64.wrap (Int.tmod i (64:Int)))) (IntKind.bits IntKind.u64))))) (AI hF (E4 [(0,some 0),(1,some 1),(2,some 2)] (R4 (AI (R3 TV) (R3 TV))))))
   refine EI ((bitsOf IntKind.u64 (fun p q=>p ||| q) (u64.wrap (rest * 2 ^ min (Int.toNat (1:Int)) (IntKind.bits IntKind.u64))) r9),(i64.wrap (i - (1:Int))),c2_1,c2_2,c2_3,c2_4) (AI hF (E4 [(0,some 0),(1,some 1),(2,some 2)] (R4 (AI (R3 TV) (R3 TV)))))
  have hz := someE hF
  subst hz
  refine E4 [(0,some 1),(1,some 2)] (R3 (AI (R2 TV) (R2 TV)))
 refine AI (OL ?_) TV
 obtain ⟨z12,hz12,hF⟩ := bindE hF
 refine OQ ⟨[(0,⟨[(4,P0 0 0),(6,P0 1 0),(73,.dat .bool z12)],[(0,.cells [(.d .bool false),(.d T10 (0:Int)),(.d T10 (0:Int)),(.d T10 (0:Int)),(.d T10 (0:Int))]),(1,.cells [(.d .bool (!(a_Neg == (decide (by_ < (0:Int)))))),(.d T10 z8.2.1),(.d T10 z8.2.2.1),(.d T10 z8.2.2.2.1),(.d T10 z8.2.2.2.2)])],2⟩)],?_,?_⟩
 ·have hF := hz12
  clear hz12
  unfold f106_j5 at hF
  refine condN hF (fun hF=>?_) (fun hF=>?_)
  ·refine gdYF (gdYF (gdYF (gdYF (gdYF (condI hF (fun hF=>?_) (fun hF=>?_))))))
   ·refine gdYT (AI (by decide) (AI (fun _=>?_) (AI (fun h=>absurd h (by decide)) (AI (fun h=>absurd h (by decide)) (AI (fun h=>absurd h (by decide)) TV)))))
    refine gdYT (gdYT (gdYT (gdYF (condT (condF ?_)))))
    have hz := someE hF
    subst hz
    refine E4 [(0,some 0),(1,some 1)] (R2 (AI (R2 TV) (R2 TV)))
   refine gdNT (gdNT (gdNT (gdNT (gdYF (condF (condF ?_))))))
   have hz := someE hF
   subst hz
   refine E4 [(0,some 0),(1,some 1)] (R2 (AI (R2 TV) (R2 TV)))
  refine gdNF (gdNF (gdNF (gdNF (gdNF (gdNF (condT ?_))))))
  have hz := someE hF
  subst hz
  refine E4 [(0,some 0),(1,some 1)] (R2 (AI (R2 TV) (R2 TV)))
 refine AI (condI hF (fun hF=>?_) (fun hF=>?_)) TV
 ·obtain ⟨r13,hr13,hF⟩ := bindE hF
  refine OL (AI f108_in (callV0 (callI C108 (z8.2.1,z8.2.2.1,z8.2.2.2.1,z8.2.2.2.2,(1:Int),(0:Int),(0:Int),(0:Int)) r13 [] false C108_holds hr13 rfl rfl (AI (fun h=>nomatch h) (R2 (AI (R2 TV) (AI TV (OL (OL (OL ?_))))))))))
  have hy := someE hF
  subst hy
  refine AI rfl (E4 [] (AI rfl (AI (AI rfl TV) TV)))
 refine OL (OL ?_)
 have hy := someE hF
 subst hy
 refine AI rfl (E4 [] (AI rfl (AI (AI rfl TV) TV)))
theorem C106_holds : C106.Holds Tryz.prog 106 := holds_of_vc tab_ok mixed (fn := Tryz.f106) (by kernel_rfl) rfl C106 (fun x y hF=>C106_vc x.1 x.2.1 x.2.2.1 x.2.2.2.1 x.2.2.2.2.1 x.2.2.2.2.2 y hF)
theorem f106_in : InP 106 := ⟨Tryz.f106,by kernel_rfl,by kernel_rfl,by kernel_rfl⟩
def f107_l1 (a_M_0:Int) (a_M_1:Int) (a_M_2:Int) (a_M_3:Int) (n:Int) (go : (Int×Int×Int×Int×Int) → Option (Int×Int×Int×Int)) (i:Int) (c2_1:Int) (c2_2:Int) (c2_3:Int) (c2_4:Int) : Option (Int×Int×Int×Int) :=
 bif (decide (i ≥ n)) then
 bindF (f112 a_M_0 a_M_1 a_M_2 a_M_3 (i64.wrap (i - n))) fun r6 =>
 bif (r6 == (1:Int)) then
 guardF (0 ≤ (i64.wrap (Int.tdiv i (64:Int))) ∧ (i64.wrap (Int.tdiv i (64:Int))) < (4:Int)) <|
 pickF (i64.wrap (Int.tdiv i (64:Int)))
 [(guardF (0 ≤ (u64.wrap (Int.tmod i (64:Int)))) <|
 go ((i64.wrap (i - (1:Int))),(bitsOf IntKind.u64 (fun p q=>p ||| q) c2_1 (u64.wrap ((1:Int) * 2 ^ min (Int.toNat (u64.wrap (Int.tmod i (64:Int)))) (IntKind.bits IntKind.u64)))),c2_2,c2_3,c2_4)),
 (guardF (0 ≤ (u64.wrap (Int.tmod i (64:Int)))) <|
 go ((i64.wrap (i - (1:Int))),c2_1,(bitsOf IntKind.u64 (fun p q=>p ||| q) c2_2 (u64.wrap ((1:Int) * 2 ^ min (Int.toNat (u64.wrap (Int.tmod i (64:Int)))) (IntKind.bits IntKind.u64)))),c2_3,c2_4)),
 (guardF (0 ≤ (u64.wrap (Int.tmod i (64:Int)))) <|
 go ((i64.wrap (i - (1:Int))),c2_1,c2_2,(bitsOf IntKind.u64 (fun p q=>p ||| q) c2_3 (u64.wrap ((1:Int) * 2 ^ min (Int.toNat (u64.wrap (Int.tmod i (64:Int)))) (IntKind.bits IntKind.u64)))),c2_4)),
 (guardF (0 ≤ (u64.wrap (Int.tmod i (64:Int)))) <|
 go ((i64.wrap (i - (1:Int))),c2_1,c2_2,c2_3,(bitsOf IntKind.u64 (fun p q=>p ||| q) c2_4 (u64.wrap ((1:Int) * 2 ^ min (Int.toNat (u64.wrap (Int.tmod i (64:Int)))) (IntKind.bits IntKind.u64))))))]
 else
 go ((i64.wrap (i - (1:Int))),c2_1,c2_2,c2_3,c2_4)
 else
 some (c2_1,c2_2,c2_3,c2_4)
def f107 (a_Neg : Bool) (a_M_0:Int) (a_M_1:Int) (a_M_2:Int) (a_M_3:Int) (n:Int) : Option (Bool×Int×Int×Int×Int) :=
 bindF (loopF (fun go x=>f107_l1 a_M_0 a_M_1 a_M_2 a_M_3 n go x.1 x.2.1 x.2.2.1 x.2.2.2.1 x.2.2.2.2) fuelN ((255:Int),(0:Int),(0:Int),(0:Int),(0:Int))) fun z5 =>
 some (a_Neg,z5.1,z5.2.1,z5.2.2.1,z5.2.2.2)
def C107 : Con where
 X := Bool×Int×Int×Int×Int×Int
 Y := Bool×Int×Int×Int×Int
 e := 0
 args x := [.raw true [(.d .bool x.1),(.d T10 x.2.1),(.d T10 x.2.2.1),(.d T10 x.2.2.2.1),(.d T10 x.2.2.2.2.1)],.dat T1 x.2.2.2.2.2]
 hin x := []
 F x := f107 x.1 x.2.1 x.2.2.1 x.2.2.2.1 x.2.2.2.2.1 x.2.2.2.2.2
 ret y := [.raw true [(.d .bool y.1),(.d T10 y.2.1),(.d T10 y.2.2.1),(.d T10 y.2.2.2.1),(.d T10 y.2.2.2.2)]]
 hout y := []
 nout := 0
theorem C107_vc (a_Neg : Bool) (a_M_0:Int) (a_M_1:Int) (a_M_2:Int) (a_M_3:Int) (n:Int) (y : Bool×Int×Int×Int×Int) (hF : f107 a_Neg a_M_0 a_M_1 a_M_2 a_M_3 n = some y) : VC Tryz.f107 C107 (a_Neg,a_M_0,a_M_1,a_M_2,a_M_3,n) y := by
 unfold f107 at hF
 refine OL (OL (OL (OL (OL ?_))))
 obtain ⟨z5,hz5,hF⟩ := bindE hF
 refine loopI (Int×Int×Int×Int×Int) (Int×Int×Int×Int) (fun x=>⟨[(1,.dat T1 n),(2,P0 0 0),(4,P0 1 0),(5,P0 2 0),(6,.dat T1 x.1)],[(0,.cells [(.d .bool a_Neg),(.d T10 a_M_0),(.d T10 a_M_1),(.d T10 a_M_2),(.d T10 a_M_3)]),(1,.cells [(.d .bool false),(.d T10 (0:Int)),(.d T10 (0:Int)),(.d T10 (0:Int)),(.d T10 (0:Int))]),(2,.cells [(.d .bool a_Neg),(.d T10 x.2.1),(.d T10 x.2.2.1),(.d T10 x.2.2.2.1),(.d T10 x.2.2.2.2)])],3⟩) (fun z=>[(2,⟨[(4,P0 0 0),(5,P0 1 0)],[(0,.cells [(.d .bool false),(.d T10 (0:Int)),(.d T10 (0:Int)),(.d T10 (0:Int)),(.d T10 (0:Int))]),(1,.cells [(.d .bool a_Neg),(.d T10 z.1),(.d T10 z.2.1),(.d T10 z.2.2.1),(.d T10 z.2.2.2)])],2⟩)]) (loopF (fun go x=>f107_l1 a_M_0 a_M_1 a_M_2 a_M_3 n go x.1 x.2.1 x.2.2.1 x.2.2.2.1 x.2.2.2.2)) fuelN ((255:Int),(0:Int),(0:Int),(0:Int),(0:Int)) z5 (AI hz5 (AI (E4 [(0,some 0),(1,some 1),(2,some 2)] (R3 (AI (R3 TV) (R3 TV)))) (AI (fun _ _ h=>loopZ h) (AI (fun m=>curI (fun i=>curI (fun c2_1=>curI (fun c2_2=>curI (fun c2_3=>fun c2_4 z hF=>?_))))) ?_))))
 ·have hF : f107_l1 a_M_0 a_M_1 a_M_2 a_M_3 n (loopF (fun go x=>f107_l1 a_M_0 a_M_1 a_M_2 a_M_3 n go x.1 x.2.1 x.2.2.1 x.2.2.2.1 x.2.2.2.2) m) i c2_1 c2_2 c2_3 c2_4 = some z := hF
  unfold f107_l1 at hF
  refine OL (OL (condI hF (fun hF=>?_) (fun hF=>?_)))
  ·refine OL (OL ?_)
   obtain ⟨r6,hr6,hF⟩ := bindE hF
   refine OL (AI f112_in (callV0 (callI C112 (a_M_0,a_M_1,a_M_2,a_M_3,(i64.wrap (i - n))) r6 [] false C112_holds hr6 rfl rfl (AI rfl (AI (fun h=>nomatch h) (R2 (AI (AI rfl TV) (AI TV (condI hF (fun hF=>?_) (fun hF=>?_))))))))))
   ·refine AI (by decide) (AI (by decide) (guardI hF (fun hF=>?_)))
    refine AI (fun hk7=>?_) ?_
    ·have hF := pickE hF hk7
     dsimp only [nthO] at hF
     refine AI (by decide) (guardI hF (fun hF=>?_))
     refine AI (rangeE hk7 (by decide)) (AI (fun _=>?_) (AI (fun h=>absurd (hk7.symm.trans h) (by decide)) (AI (fun h=>absurd (hk7.symm.trans h) (by decide)) (AI (fun h=>absurd (hk7.symm.trans h) (by decide)) TV))))
     refine OL (EI ((i64.wrap (i - (1:Int))),(bitsOf IntKind.u64 (fun p q=>p ||| q) c2_1 (u64.wrap ((1:Int) * 2 ^ min (Int.toNat (u64.wrap (Int.tmod i (64:Int)))) (IntKind.bits IntKind.u64)))),c2_2,c2_3,c2_4) (AI hF (E4 [(0,some 0),(1,some 1),(2,some 2)] (R3 (AI (R3 TV) (R3 TV))))))
    refine AI (fun hk7=>?_) ?_
    ·have hF := pickE hF hk7
     dsimp only [nthO] at hF
     refine AI (by decide) (guardI hF (fun hF=>?_))
     refine AI (rangeE hk7 (by decide)) (AI (fun h=>absurd (hk7.symm.trans h) (by decide)) ?_)
     refine AI (fun _=>?_) (AI (fun h=>absurd (hk7.symm.trans h) (by decide)) (AI (fun h=>absurd (hk7.symm.trans h) (by decide)) TV))
     refine OL (EI ((i64.wrap (i - (1:Int))),c2_1,(bitsOf IntKind.u64 (fun p q=>p ||| q) c2_2 (u64.wrap ((1:Int) * 2 ^ min (Int.toNat (u64.wrap (Int.tmod i (64:Int)))) (IntKind.bits IntKind.u64)))),c2_3,c2_4) (AI hF (E4 [(0,some 0),(1,some 1),(2,some 2)] (R3 (AI (R3 TV) (R3 TV))))))
    refine AI (fun hk7=>?_) ?_
    ·have hF := pickE hF hk7
     dsimp only [nthO] at hF
     refine AI (by decide) (guardI hF (fun hF=>?_))
     refine AI (rangeE hk7 (by decide)) (AI (fun h=>absurd (hk7.symm.trans h) (by decide)) ?_)
     refine AI (fun h=>absurd (hk7.symm.trans h) (by decide)) ?_
     refine AI (fun _=>?_) (AI (fun h=>absurd (hk7.symm.trans h) (by decide)) TV)
     refine OL (EI ((i64.wrap (i - (1:Int))),c2_1,c2_2,(bitsOf IntKind.u64 (fun p q=>p ||| q) c2_3 (u64.wrap ((1:Int) * 2 ^ min (Int.toNat (u64.wrap (Int.tmod i (64:Int)))) (IntKind.bits IntKind.u64)))),c2_4) (AI hF (E4 [(0,some 0),(1,some 1),(2,some 2)] (R3 (AI (R3 TV) (R3 TV))))))
    refine AI (fun hk7=>?_) TV
    have hF := pickE hF hk7
    dsimp only [nthO] at hF
    refine AI (by decide) (guardI hF (fun hF=>?_))
    refine AI (rangeE hk7 (by decide)) (AI (fun h=>absurd (hk7.symm.trans h) (by decide)) ?_)
    refine AI (fun h=>absurd (hk7.symm.trans h) (by decide)) ?_
    refine AI (fun h=>absurd (hk7.symm.trans h) (by decide)) ?_
    refine AI (fun _=>?_) TV
    refine OL (EI ((i64.wrap (i - (1:Int))),c2_1,c2_2,c2_3,(bitsOf IntKind.u64 (fun p q=>p ||| q) c2_4 (u64.wrap ((1:Int) * 2 ^ min (Int.toNat (u64.wrap (Int.tmod i (64:Int)))) (IntKind.bits IntKind.u64))))) (AI hF (E4 [(0,some 0),(1,some 1),(2,some 2)] (R3 (AI (R3 TV) (R3 TV))))))
   refine EI ((i64.wrap (i - (1:Int))),c2_1,c2_2,c2_3,c2_4) (AI hF (E4 [(0,some 0),(1,some 1),(2,some 2)] (R3 (AI (R3 TV) (R3 TV)))))
  have hz := someE hF
  subst hz
  refine E4 [(0,some 1),(1,some 2)] (AI rfl (AI (R2 TV) (R2 TV)))
 refine AI (OL (OL ?_)) TV
 have hy := someE hF
 subst hy
 refine AI rfl (E4 [] (AI rfl (AI (AI rfl TV) TV)))
theorem C107_holds : C107.Holds Tryz.prog 107 := holds_of_vc tab_ok mixed (fn := Tryz.f107) (by kernel_rfl) rfl C107 (fun x y hF=>C107_vc x.1 x.2.1 x.2.2.1 x.2.2.2.1 x.2.2.2.2.1 x.2.2.2.2.2 y hF)
theorem f107_in : InP 107 := ⟨Tryz.f107,by kernel_rfl,by kernel_rfl,by kernel_rfl⟩
def f78 (n:Int) : Option Int :=
 bindF (f83 n) fun r1 =>
 bindF (f107 r1.1 r1.2 (0:Int) (0:Int) (0:Int) (32:Int)) fun r2 =>
 bindF (f81 r2.1 r2.2.1 r2.2.2.1 r2.2.2.2.1 r2.2.2.2.2) fun r3 =>
 some r3
def C78 : Con where
 X := Int
 Y := Int
 e := 0
 args x := [.dat T1 x]
 hin x := []
 F x := f78 x
 ret y := [.dat T1 y]
 hout y := []
 nout := 0
theorem C78_vc (n:Int) (y:Int) (hF : f78 n = some y) : VC Tryz.f78 C78 n y := by
 unfold f78 at hF
 refine OL (OL ?_)
 obtain ⟨r1,hr1,hF⟩ := bindE hF
 refine OL (AI f83_in (callV0 (callI C83 n r1 [] false C83_holds hr1 rfl rfl (AI rfl (AI (fun h=>nomatch h) (R2 (AI TV (AI TV ?_))))))))
 obtain ⟨r2,hr2,hF⟩ := bindE hF
 refine OL (AI f107_in (callV0 (callI C107 (r1.1,r1.2,(0:Int),(0:Int),(0:Int),(32:Int)) r2 [] false C107_holds hr2 rfl rfl (AI rfl (AI (fun h=>nomatch h) (R2 (AI (AI rfl TV) (AI TV ?_))))))))
 obtain ⟨r3,hr3,hF⟩ := bindE hF
 refine OL (AI f81_in (callV0 (callI C81 (r2.1,r2.2.1,r2.2.2.1,r2.2.2.2.1,r2.2.2.2.2) r3 [] false C81_holds hr3 rfl rfl (AI (fun h=>nomatch h) (R2 (AI (AI rfl TV) (AI TV ?_)))))))
 have hy := someE hF
 subst hy
 refine AI rfl (E4 [] (R2 (AI TV TV)))
theorem C78_holds : C78.Holds Tryz.prog 78 := holds_of_vc tab_ok mixed (fn := Tryz.f78) (by kernel_rfl) rfl C78 (fun x y hF=>C78_vc x y hF)
theorem f78_in : InP 78 := ⟨Tryz.f78,by kernel_rfl,by kernel_rfl,by kernel_rfl⟩
def f105 (neg : Bool) (none_ : Bool) : Option Int :=
 bif none_ then
 some (0:Int)
 else
 bif neg then
 some (-9223372036854775808:Int)
 else
 some (9223372036854775807:Int)
def C105 : Con where
 X := Bool×Bool
 Y := Int
 e := 0
 args x := [.dat .bool x.1,.dat .bool x.2]
 hin x := []
 F x := f105 x.1 x.2
 ret y := [.dat T1 y]
 hout y := []
 nout := 0
theorem C105_vc (neg : Bool) (none_ : Bool) (y:Int) (hF : f105 neg none_ = some y) : VC Tryz.f105 C105 (neg,none_) y := by
 unfold f105 at hF
 refine OL (OL (OL (condI hF (fun hF=>?_) (fun hF=>?_))))
 ·refine OL ?_
  have hy := someE hF
  subst hy
  refine AI rfl (E4 [] (R2 (AI TV TV)))
 refine OL (condI hF (fun hF=>?_) (fun hF=>?_))
 ·refine OL ?_
  have hy := someE hF
  subst hy
  refine AI rfl (E4 [] (R2 (AI TV TV)))
 refine OL ?_
 have hy := someE hF
 subst hy
 refine AI rfl (E4 [] (R2 (AI TV TV)))
theorem C105_holds : C105.Holds Tryz.prog 105 := holds_of_vc tab_ok mixed (fn := Tryz.f105) (by kernel_rfl) rfl C105 (fun x y hF=>C105_vc x.1 x.2 y hF)
theorem f105_in : InP 105 := ⟨Tryz.f105,by kernel_rfl,by kernel_rfl,by kernel_rfl⟩
def f77 (a:Int) (b:Int) : Option Int :=
 bif (b == (0:Int)) then
 bindF (f105 (decide (a < (0:Int))) (a == (0:Int))) fun r1 =>
 some r1
 else
 bindF (f83 a) fun r2 =>
 bindF (f107 r2.1 r2.2 (0:Int) (0:Int) (0:Int) (32:Int)) fun r3 =>
 bindF (f106 r3.1 r3.2.1 r3.2.2.1 r3.2.2.2.1 r3.2.2.2.2 b) fun r4 =>
 bindF (f81 r4.1 r4.2.1 r4.2.2.1 r4.2.2.2.1 r4.2.2.2.2) fun r5 =>
 some r5
def C77 : Con where
 X := Int×Int
 Y := Int
 e := 0
 args x := [.dat T1 x.1,.dat T1 x.2]
 hin x := []
 F x := f77 x.1 x.2
 ret y := [.dat T1 y]
 hout y := []
 nout := 0
theorem C77_vc (a:Int) (b:Int) (y:Int) (hF : f77 a b = some y) : VC Tryz.f77 C77 (a,b) y := by
 unfold f77 at hF
 refine OL (OL (OL (condI hF (fun hF=>?_) (fun hF=>?_))))
 ·refine OL ?_
  obtain ⟨r1,hr1,hF⟩ := bindE hF
  refine OL (AI f105_in (callV0 (callI C105 ((decide (a < (0:Int))),(a == (0:Int))) r1 [] false C105_holds hr1 rfl rfl (R2 (AI (fun h=>nomatch h) (R2 (AI TV (AI TV ?_))))))))
  have hy := someE hF
  subst hy
  refine AI rfl (E4 [] (R2 (AI TV TV)))
 refine OL ?_
 obtain ⟨r2,hr2,hF⟩ := bindE hF
 refine OL (AI f83_in (callV0 (callI C83 a r2 [] false C83_holds hr2 rfl rfl (AI rfl (AI (fun h=>nomatch h) (R2 (AI TV (AI TV ?_))))))))
 obtain ⟨r3,hr3,hF⟩ := bindE hF
 refine OL (AI f107_in (callV0 (callI C107 (r2.1,r2.2,(0:Int),(0:Int),(0:Int),(32:Int)) r3 [] false C107_holds hr3 rfl rfl (AI rfl (AI (fun h=>nomatch h) (R2 (AI (AI rfl TV) (AI TV ?_))))))))
 obtain ⟨r4,hr4,hF⟩ := bindE hF
 refine OL (AI f106_in (callV0 (callI C106 (r3.1,r3.2.1,r3.2.2.1,r3.2.2.2.1,r3.2.2.2.2,b) r4 [] false C106_holds hr4 rfl rfl (AI rfl (AI (fun h=>nomatch h) (R2 (AI (AI rfl TV) (AI TV ?_))))))))
 obtain ⟨r5,hr5,hF⟩ := bindE hF
 refine OL (AI f81_in (callV0 (callI C81 (r4.1,r4.2.1,r4.2.2.1,r4.2.2.2.1,r4.2.2.2.2) r5 [] false C81_holds hr5 rfl rfl (AI (fun h=>nomatch h) (R2 (AI (AI rfl TV) (AI TV ?_)))))))
 have hy := someE hF
 subst hy
 refine AI rfl (E4 [] (R2 (AI TV TV)))
theorem C77_holds : C77.Holds Tryz.prog 77 := holds_of_vc tab_ok mixed (fn := Tryz.f77) (by kernel_rfl) rfl C77 (fun x y hF=>C77_vc x.1 x.2 y hF)
theorem f77_in : InP 77 := ⟨Tryz.f77,by kernel_rfl,by kernel_rfl,by kernel_rfl⟩
end Go.Proofs
