import Derived.Test.YtdnlicefpmiljaaGreatDoorLay
set_option linter.unusedVariables false
set_option maxRecDepth 100000
set_option maxHeartbeats 8000000
namespace Go.Proofs
open Go.AM
open IntKind (i64 u64 i32 u32 i16 u16 i8 u8)
def f32 (c:Int) : Option Bool :=
 bif (c == (32:Int)) then
 some true
 else
 bif (c == (9:Int)) then
 some true
 else
 some (c == (10:Int))
def C32 : Con where
 X := Int
 Y := Bool
 e := 0
 args x := [.dat T0 x]
 hin x := []
 F x := f32 x
 ret y := [.dat .bool y]
 hout y := []
 nout := 0
theorem C32_vc (c:Int) (y : Bool) (hF : f32 c = some y) : VC Tryz.f32 C32 c y := by
 unfold f32 at hF
 refine OL (OL (condN hF (fun hF=>?_) (fun hF=>?_)))
 ·refine gdYF (condF (condN hF (fun hF=>?_) (fun hF=>?_)))
  ·refine gdYF (condF ?_)
   have hy := someE hF
   subst hy
   refine AI rfl (E4 [] (R2 (AI TV TV)))
  refine gdNF (condT ?_)
  have hy := someE hF
  subst hy
  refine AI rfl (E4 [] (R2 (AI TV TV)))
 refine gdNF (condT (gdNF (gdNF (condT ?_))))
 have hy := someE hF
 subst hy
 refine AI rfl (E4 [] (R2 (AI TV TV)))
theorem C32_holds : C32.Holds Tryz.prog 32 := holds_of_vc tab_ok mixed (fn := Tryz.f32) (by kernel_rfl) rfl C32 (fun x y hF=>C32_vc x y hF)
theorem f32_in : InP 32 := ⟨Tryz.f32,by kernel_rfl,by kernel_rfl,by kernel_rfl⟩
def f31_32 (s : ByteArray) : Option (List ByteArray) :=
 fieldsF (fun x=>(f32 x).getD false) s
def C31_32 : Con where
 X := ByteArray
 Y := List ByteArray
 e := 0
 args x := [.dat .str x,.raw false [.c (.func (.func 32) #[] #[])]]
 hin x := []
 F x := f31_32 x
 ret y := [.raw false [.osl 0]]
 hout y := [(0,.arr 9 .str y)]
 nout := 1
theorem C31_32_holds : C31_32.Holds Tryz.prog 31 := fields_holds Tryz.lays229 (fun x=>(f32 x).getD false) (enters_in f32_in) C32_holds (by intro x; show f32 (x:Int) = some ((f32 (x:Int)).getD false); unfold f32; generalize (x:Int) = c; cases c == (32:Int) <;> cases c == (9:Int) <;> cases c == (10:Int) <;> rfl) (by kernel_rfl) (by kernel_rfl)
theorem f31_32_in : ∃ fn,Tryz.prog.funcs[31]? = some fn ∧ fn.body.isSome = true ∧ (fn.name == "runtime.NumGoroutine") = false := ⟨Tryz.f31,by kernel_rfl,by kernel_rfl,by kernel_rfl⟩
def f113 (s : ByteArray) (c : ByteArray) : Option ByteArray :=
 trimF s c
def C113 : Con where
 X := ByteArray×ByteArray
 Y := ByteArray
 e := 0
 args x := [.dat .str x.1,.dat .str x.2]
 hin x := []
 F x := f113 x.1 x.2
 ret y := [.dat .str y]
 hout y := []
 nout := 0
theorem C113_holds : C113.Holds Tryz.prog 113 := trim_holds Tryz.lays160 (by kernel_rfl)
theorem f113_in : InP 113 := ⟨Tryz.f113,by kernel_rfl,by kernel_rfl,by kernel_rfl⟩
def f114 (s : ByteArray) : Option Int :=
 atoiF s
def C114 : Con where
 X := ByteArray
 Y := Int
 e := 0
 args x := [.dat .str x]
 hin x := []
 F x := f114 x
 ret y := [.dat T1 y,.raw false [.c .nilIface]]
 hout y := []
 nout := 0
theorem C114_holds : C114.Holds Tryz.prog 114 := atoi_holds Tryz.lays172
theorem f114_in : InP 114 := ⟨Tryz.f114,by kernel_rfl,by kernel_rfl,by kernel_rfl⟩
def f87_j1 (s : ByteArray) : Option (Sum Unit Unit) :=
 bif (decide ((ByteArray.size s:Int) < (1:Int))) then
 some (Sum.inr ())
 else
 bif (decide ((ByteArray.size s:Int) > (4:Int))) then
 some (Sum.inr ())
 else
 bindF (f113 s (ByteArray.mk #[48,49,50,51,52,53,54,55,56,57])) fun r3 =>
 bif (!(ByteArray.toList r3 == ByteArray.toList (ByteArray.mk #[]))) then
 some (Sum.inr ())
 else
 bif (decide ((ByteArray.size s:Int) > (1:Int))) then
 guardF (0 ≤ (0:Int) ∧ (0:Int) < (ByteArray.size s:Int)) <|
 bif ((bt s (0:Int)) == (48:Int)) then
 some (Sum.inr ())
 else
 some (Sum.inl ())
 else
 some (Sum.inl ())
def f87 (s : ByteArray) : Option (Int×Bool) :=
 bindF (f87_j1 s) fun z2 =>
 sumF z2 (fun z2a =>
 bindF (f114 s) fun r4 =>
 some (r4,true)) (fun z2b =>
 some ((0:Int),false))
def C87 : Con where
 X := ByteArray
 Y := Int×Bool
 e := 0
 args x := [.dat .str x]
 hin x := []
 F x := f87 x
 ret y := [.dat T1 y.1,.dat .bool y.2]
 hout y := []
 nout := 0
theorem C87_vc (s : ByteArray) (y : Int×Bool) (hF : f87 s = some y) : VC Tryz.f87 C87 s y := by
 unfold f87 at hF
 refine OL ?_
 obtain ⟨z2,hz2,hF⟩ := bindE hF
 refine OQ ⟨Sum.elim (fun z2a=>[(0,⟨[(0,.dat .str s)],[],0⟩)]) (fun z2b=>[(1,⟨[(2,D0 0),(3,.dat .bool false)],[],0⟩)]) z2,?_,?_⟩
 ·have hF := hz2
  clear hz2
  unfold f87_j1 at hF
  refine OL (condN hF (fun hF=>?_) (fun hF=>?_))
  ·refine gdYF (gdYF (condF (condN hF (fun hF=>?_) (fun hF=>?_))))
   ·refine gdYF ?_
    obtain ⟨r3,hr3,hF⟩ := bindE hF
    refine OL (AI f113_in (callV0 (callI C113 (s,(ByteArray.mk #[48,49,50,51,52,53,54,55,56,57])) r3 [] false C113_holds hr3 rfl rfl (R2 (AI (fun h=>nomatch h) (R2 (AI TV (AI TV (gdYF (condF (condN hF (fun hF=>?_) (fun hF=>?_))))))))))))
    ·refine gdYF (gdYF (gdYF (condI hF (fun hF=>?_) (fun hF=>?_))))
     ·refine gdYT (guardI hF (fun hF=>?_))
      refine gdYT (gdYF (condT (condF (condI hF (fun hF=>?_) (fun hF=>?_)))))
      ·refine OL ?_
       have hz := someE hF
       subst hz
       refine E4 [] (R3 (AI TV TV))
      have hz := someE hF
      subst hz
      refine E4 [] (R2 (AI TV TV))
     refine gdNT (gdNT (gdYF (condF (condF (condF ?_)))))
     have hz := someE hF
     subst hz
     refine E4 [] (R2 (AI TV TV))
    refine gdNF (gdNF (gdNF (gdNF (condT (condT (OL ?_))))))
    have hz := someE hF
    subst hz
    refine E4 [] (R3 (AI TV TV))
   refine gdNF (gdNF (condT (gdNF (gdNF (gdNF (gdNF (gdNF (condT (condT (OL ?_))))))))))
   have hz := someE hF
   subst hz
   refine E4 [] (R3 (AI TV TV))
  refine gdNF (gdNF (condT (gdNF (gdNF (gdNF (condT (gdNF (gdNF (gdNF (gdNF (gdNF (condT (condT (OL ?_))))))))))))))
  have hz := someE hF
  subst hz
  refine E4 [] (R3 (AI TV TV))
 rcases z2 with z2a | z2b
 ·dsimp only [sumF] at hF
  refine AI (OL ?_) TV
  obtain ⟨r4,hr4,hF⟩ := bindE hF
  refine OL (AI f114_in (callV0 (callI C114 s r4 [] false C114_holds hr4 rfl rfl (AI rfl (AI (fun h=>nomatch h) (R2 (AI TV (AI TV (OL (EI (.take 0 (.take 1 (.take 2 (.take 3 (.take 4 .done))))) (EI [] (EI [] (AI rfl ?_)))))))))))))
  have hy := someE hF
  subst hy
  refine AI rfl (E4 [] (R3 (AI TV TV)))
 dsimp only [sumF] at hF
 refine AI ?_ TV
 have hy := someE hF
 subst hy
 refine AI rfl (E4 [] (R3 (AI TV TV)))
theorem C87_holds : C87.Holds Tryz.prog 87 := holds_of_vc tab_ok mixed (fn := Tryz.f87) (by kernel_rfl) rfl C87 (fun x y hF=>C87_vc x y hF)
theorem f87_in : InP 87 := ⟨Tryz.f87,by kernel_rfl,by kernel_rfl,by kernel_rfl⟩
def f58_l1 (go : ((List ByteArray)×(List Int)) → Option ((List ByteArray)×(List Int))) (w_2 : List ByteArray) (l0 : List Int) : Option ((List ByteArray)×(List Int)) :=
 bif (decide ((List.length w_2:Int) > (0:Int))) then
 guardF (0 ≤ (0:Int) ∧ (0:Int) < (List.length w_2:Int)) <|
 bindF (f87 (rd (Ty.z .str) w_2 (0:Int))) fun r4 =>
 bif (!r4.2) then
 some (w_2,l0)
 else
 guardF ((List.length l0 + List.length ([r4.1])) * 8 ≤ 140737488355328) <|
 guardF (0 ≤ (1:Int) ∧ (1:Int) ≤ (List.length w_2:Int)) <|
 go ((List.drop (Int.toNat (1:Int)) w_2),(l0 ++ ([r4.1])))
 else
 some (w_2,l0)
def f58 (w : List ByteArray) : Option ((List ByteArray)×(List Int)) :=
 bindF (loopF (fun go x=>f58_l1 go x.1 x.2) fuelN (w,[])) fun z3 =>
 some (z3.1,z3.2)
def C58 : Con where
 X := List ByteArray
 Y := (List ByteArray)×(List Int)
 e := 0
 args x := [.dat T2 x]
 hin x := []
 F x := f58 x
 ret y := [O0 0,.dat T2 y.1]
 hout y := [(0,.arr 3 T1 y.2)]
 nout := 1
theorem C58_vc (w : List ByteArray) (y : (List ByteArray)×(List Int)) (hF : f58 w = some y) : VC Tryz.f58 C58 w y := by
 unfold f58 at hF
 refine OL (OL (OL ?_))
 obtain ⟨z3,hz3,hF⟩ := bindE hF
 refine loopI ((List ByteArray)×(List Int)) ((List ByteArray)×(List Int)) (fun x=>⟨[(0,.dat T2 x.1),(4,O0 0)],[(0,.arr 3 T1 x.2)],1⟩) (fun z=>[(2,⟨[(0,.dat T2 z.1),(4,O0 0)],[(0,.arr 3 T1 z.2)],1⟩)]) (loopF (fun go x=>f58_l1 go x.1 x.2)) fuelN (w,[]) z3 (AI hz3 (AI (E4 [(0,none)] (R2 (AI (AI rfl TV) (AI rfl TV)))) (AI (fun _ _ h=>loopZ h) (AI (fun m=>curI (fun w_2=>fun l0 z hF=>?_)) ?_))))
 ·have hF : f58_l1 (loopF (fun go x=>f58_l1 go x.1 x.2) m) w_2 l0 = some z := hF
  unfold f58_l1 at hF
  refine OL (OL (condI hF (fun hF=>?_) (fun hF=>?_)))
  ·refine OL (guardI hF (fun hF=>?_))
   obtain ⟨r4,hr4,hF⟩ := bindE hF
   refine OL (AI f87_in (callV0 (callI C87 (rd (Ty.z .str) w_2 (0:Int)) r4 [] false C87_holds hr4 rfl rfl (AI rfl (AI (fun h=>nomatch h) (R2 (AI TV (AI TV (OL (OL (condI hF (fun hF=>?_) (fun hF=>?_))))))))))))
   ·have hz := someE hF
    subst hz
    refine E4 [(0,some 0)] (R2 (AI (AI rfl TV) (AI rfl TV)))
   refine OL (OL (OL (guardI hF (fun hF=>?_))))
   refine guardI hF (fun hF=>?_)
   refine EI ((List.drop (Int.toNat (1:Int)) w_2),(l0 ++ ([r4.1]))) (AI hF (E4 [(0,some 2)] (R2 (AI (AI rfl TV) (AI rfl TV)))))
  have hz := someE hF
  subst hz
  refine E4 [(0,some 0)] (R2 (AI (AI rfl TV) (AI rfl TV)))
 refine AI (OL ?_) TV
 have hy := someE hF
 subst hy
 refine AI rfl (E4 [(0,some 0)] (R2 (AI (AI rfl TV) (AI rfl TV))))
theorem C58_holds : C58.Holds Tryz.prog 58 := holds_of_vc tab_ok mixed (fn := Tryz.f58) (by kernel_rfl) rfl C58 (fun x y hF=>C58_vc x y hF)
theorem f58_in : InP 58 := ⟨Tryz.f58,by kernel_rfl,by kernel_rfl,by kernel_rfl⟩
def f38_j1 (kind : ByteArray) : Option Bool :=
 bif (ByteArray.toList kind == ByteArray.toList (ByteArray.mk #[100,101,110,115,101])) then
 some (ByteArray.toList kind == ByteArray.toList (ByteArray.mk #[100,101,110,115,101]))
 else
 bif (ByteArray.toList kind == ByteArray.toList (ByteArray.mk #[112,111,111,108])) then
 some (ByteArray.toList kind == ByteArray.toList (ByteArray.mk #[112,111,111,108]))
 else
 some (ByteArray.toList kind == ByteArray.toList (ByteArray.mk #[98,101,110,100]))
def f38 (kind : ByteArray) : Option Int :=
 bindF (f38_j1 kind) fun z1 =>
 bif z1 then
 some (1:Int)
 else
 bif (ByteArray.toList kind == ByteArray.toList (ByteArray.mk #[99,111,110,118])) then
 some (2:Int)
 else
 bif (ByteArray.toList kind == ByteArray.toList (ByteArray.mk #[115,107,105,112])) then
 some (0:Int)
 else
 some (-1:Int)
def C38 : Con where
 X := ByteArray
 Y := Int
 e := 0
 args x := [.dat .str x]
 hin x := []
 F x := f38 x
 ret y := [.dat T1 y]
 hout y := []
 nout := 0
theorem C38_vc (kind : ByteArray) (y:Int) (hF : f38 kind = some y) : VC Tryz.f38 C38 kind y := by
 unfold f38 at hF
 refine OL (OL (OL ?_))
 obtain ⟨z1,hz1,hF⟩ := bindE hF
 refine OQ ⟨[(0,⟨[(3,.dat .str kind),(4,.dat .bool z1)],[],0⟩)],?_,?_⟩
 ·have hF := hz1
  clear hz1
  unfold f38_j1 at hF
  refine OL (condI hF (fun hF=>?_) (fun hF=>?_))
  ·have hz := someE hF
   subst hz
   refine E4 [] (R3 (AI TV TV))
  refine OL (condI hF (fun hF=>?_) (fun hF=>?_))
  ·have hz := someE hF
   subst hz
   refine E4 [] (R3 (AI TV TV))
  have hz := someE hF
  subst hz
  refine E4 [] (R3 (AI TV TV))
 refine AI (condI hF (fun hF=>?_) (fun hF=>?_)) TV
 ·refine OL ?_
  have hy := someE hF
  subst hy
  refine AI rfl (E4 [] (R2 (AI TV TV)))
 refine OL (condI hF (fun hF=>?_) (fun hF=>?_))
 ·refine OL ?_
  have hy := someE hF
  subst hy
  refine AI rfl (E4 [] (R2 (AI TV TV)))
 refine OL (condI hF (fun hF=>?_) (fun hF=>?_))
 ·refine OL ?_
  have hy := someE hF
  subst hy
  refine AI rfl (E4 [] (R2 (AI TV TV)))
 refine OL ?_
 have hy := someE hF
 subst hy
 refine AI rfl (E4 [] (R2 (AI TV TV)))
theorem C38_holds : C38.Holds Tryz.prog 38 := holds_of_vc tab_ok mixed (fn := Tryz.f38) (by kernel_rfl) rfl C38 (fun x y hF=>C38_vc x y hF)
theorem f38_in : InP 38 := ⟨Tryz.f38,by kernel_rfl,by kernel_rfl,by kernel_rfl⟩
def f33_j3 (w : List ByteArray) : Option Bool :=
 bif ((List.length w:Int) == (0:Int)) then
 some true
 else
 guardF (0 ≤ (0:Int) ∧ (0:Int) < (List.length w:Int)) <|
 some (!(ByteArray.toList (rd (Ty.z .str) w (0:Int)) == ByteArray.toList (ByteArray.mk #[105,110])))
def f33_j2 (w : List ByteArray) : Option (Sum Unit Unit) :=
 bindF (f33_j3 w) fun z3 =>
 bif z3 then
 some (Sum.inr ())
 else
 some (Sum.inl ())
def f33_j6 (r4 : (List ByteArray)×(List Int)) : Option Bool :=
 bif (decide ((List.length r4.2:Int) < (1:Int))) then
 some true
 else
 some (decide ((List.length r4.2:Int) > (2:Int)))
def f33_j5 (r4 : (List ByteArray)×(List Int)) : Option (Sum Unit Unit) :=
 bindF (f33_j6 r4) fun z7 =>
 bif z7 then
 some (Sum.inr ())
 else
 some (Sum.inl ())
def f33_l7 (go : ((List ByteArray)×(List (ByteArray×Int×Int))) → Option (Sum Unit (List (ByteArray×Int×Int)))) (w_2 : List ByteArray) (l3 : List (ByteArray×Int×Int)) : Option (Sum Unit (List (ByteArray×Int×Int))) :=
 bif (decide ((List.length w_2:Int) > (0:Int))) then
 guardF (0 ≤ (0:Int) ∧ (0:Int) < (List.length w_2:Int)) <|
 guardF (0 ≤ (1:Int) ∧ (1:Int) ≤ (List.length w_2:Int)) <|
 bindF (f58 (List.drop (Int.toNat (1:Int)) w_2)) fun r13 =>
 bindF (f38 (rd (Ty.z .str) w_2 (0:Int))) fun r14 =>
 bif ((List.length r13.2:Int) != r14) then
 some (Sum.inl ())
 else
 guardF ((List.length r13.2 + List.length ([(0:Int),(0:Int)])) * 8 ≤ 140737488355328) <|
 guardF (0 ≤ (0:Int) ∧ (0:Int) < (List.length (r13.2 ++ ([(0:Int),(0:Int)])):Int)) <|
 guardF (0 ≤ (1:Int) ∧ (1:Int) < (List.length (r13.2 ++ ([(0:Int),(0:Int)])):Int)) <|
 guardF ((List.length l3 + List.length ([((rd (Ty.z .str) w_2 (0:Int)),(rd (0:Int) (r13.2 ++ ([(0:Int),(0:Int)])) (0:Int)),(rd (0:Int) (r13.2 ++ ([(0:Int),(0:Int)])) (1:Int)))])) * 32 ≤ 140737488355328) <|
 go (r13.1,(l3 ++ ([((rd (Ty.z .str) w_2 (0:Int)),(rd (0:Int) (r13.2 ++ ([(0:Int),(0:Int)])) (0:Int)),(rd (0:Int) (r13.2 ++ ([(0:Int),(0:Int)])) (1:Int)))])))
 else
 some (Sum.inr l3)
def f33 (w : List ByteArray) : Option (Bool×(List Int)×(List (ByteArray×Int×Int))) :=
 bindF (f33_j2 w) fun z2 =>
 sumF z2 (fun z2a =>
 guardF (0 ≤ (1:Int) ∧ (1:Int) ≤ (List.length w:Int)) <|
 bindF (f58 (List.drop (Int.toNat (1:Int)) w)) fun r4 =>
 bindF (f33_j5 r4) fun z6 =>
 sumF z6 (fun z6a =>
 bindF (loopF (fun go x=>f33_l7 go x.1 x.2) fuelN (r4.1,[])) fun z12 =>
 sumF z12 (fun z12a =>
 some (false,[],[])) (fun z12b =>
 some (true,r4.2,z12b))) (fun z6b =>
 some (false,[],[]))) (fun z2b =>
 some (false,[],[]))
def C33 : Con where
 X := List ByteArray
 Y := Bool×(List Int)×(List (ByteArray×Int×Int))
 e := 0
 args x := [.dat T2 x]
 hin x := []
 F x := f33 x
 ret y := [.raw true [(.osl 0),(.osl 1)],.dat .bool y.1]
 hout y := [(0,.arr 3 T1 y.2.1),(1,.arr 70 T3 y.2.2)]
 nout := 2
theorem C33_vc (w : List ByteArray) (y : Bool×(List Int)×(List (ByteArray×Int×Int))) (hF : f33 w = some y) : VC Tryz.f33 C33 w y := by
 unfold f33 at hF
 refine OL ?_
 obtain ⟨z2,hz2,hF⟩ := bindE hF
 refine OQ ⟨Sum.elim (fun z2a=>[(0,⟨[(0,.dat T2 w),(2,P0 0 0)],[(0,.cells [N0,N0])],1⟩)]) (fun z2b=>[(1,⟨[(2,P0 0 0),(3,.dat .bool false)],[(0,.cells [N0,N0])],1⟩)]) z2,?_,?_⟩
 ·have hF := hz2
  clear hz2
  unfold f33_j2 at hF
  obtain ⟨z3,hz3,hF⟩ := bindE hF
  refine OQ ⟨[(0,⟨[(0,.dat T2 w),(2,P0 0 0),(16,.dat .bool z3)],[(0,.cells [N0,N0])],1⟩)],?_,?_⟩
  ·have hF := hz3
   clear hz3
   unfold f33_j3 at hF
   refine condN hF (fun hF=>?_) (fun hF=>?_)
   ·refine gdYF (guardI hF (fun hF=>?_))
    refine gdYF (gdYF (condF ?_))
    have hz := someE hF
    subst hz
    refine E4 [(0,some 0)] (R3 (AI (AI rfl TV) (AI rfl TV)))
   refine gdNF (gdNF (gdNF (condT ?_)))
   have hz := someE hF
   subst hz
   refine E4 [(0,some 0)] (R3 (AI (AI rfl TV) (AI rfl TV)))
  refine AI (condI hF (fun hF=>?_) (fun hF=>?_)) TV
  ·refine OL (OL ?_)
   have hz := someE hF
   subst hz
   refine E4 [(0,some 0)] (R2 (AI (AI rfl TV) (AI rfl TV)))
  have hz := someE hF
  subst hz
  refine E4 [(0,some 0)] (R2 (AI (AI rfl TV) (AI rfl TV)))
 rcases z2 with z2a | z2b
 ·dsimp only [sumF] at hF
  refine AI (OL (guardI hF (fun hF=>?_))) TV
  obtain ⟨r4,hr4,hF⟩ := bindE hF
  refine OL (AI f58_in (callV0 (callI C58 (List.drop (Int.toNat (1:Int)) w) r4 [] false C58_holds hr4 rfl rfl (AI rfl (AI (fun h=>nomatch h) (R2 (AI TV (AI TV (OL (OL ?_))))))))))
  obtain ⟨z6,hz6,hF⟩ := bindE hF
  refine OQ ⟨Sum.elim (fun z6a=>[(0,⟨[(0,.dat T2 r4.1),(2,P0 0 0),(5,P0 1 0)],[(0,.cells [N0,N0]),(1,.cells [(.osl 2),N0]),(2,.arr 3 T1 r4.2)],3⟩)]) (fun z6b=>[(1,⟨[(2,P0 0 0),(3,.dat .bool false)],[(0,.cells [N0,N0])],1⟩)]) z6,?_,?_⟩
  ·have hF := hz6
   clear hz6
   unfold f33_j5 at hF
   obtain ⟨z7,hz7,hF⟩ := bindE hF
   refine OQ ⟨[(0,⟨[(0,.dat T2 r4.1),(2,P0 0 0),(5,P0 1 0),(33,.dat .bool z7)],[(0,.cells [N0,N0]),(1,.cells [(.osl 2),N0]),(2,.arr 3 T1 r4.2)],3⟩)],?_,?_⟩
   ·have hF := hz7
    clear hz7
    unfold f33_j6 at hF
    refine condN hF (fun hF=>?_) (fun hF=>?_)
    ·refine gdYF (gdYF (condF ?_))
     have hz := someE hF
     subst hz
     refine E4 [(0,some 0),(1,some 2),(2,some 1)] (R3 (AI (R2 TV) (R3 TV)))
    refine gdNF (gdNF (condT ?_))
    have hz := someE hF
    subst hz
    refine E4 [(0,some 0),(1,some 2),(2,some 1)] (R3 (AI (R2 TV) (R3 TV)))
   refine AI (condI hF (fun hF=>?_) (fun hF=>?_)) TV
   ·refine OL (OL ?_)
    have hz := someE hF
    subst hz
    refine E4 [(0,some 0)] (R2 (AI (AI rfl TV) (AI rfl TV)))
   have hz := someE hF
   subst hz
   refine E4 [(0,some 0),(1,some 1),(2,some 2)] (R2 (AI (R2 TV) (R3 TV)))
  rcases z6 with z6a | z6b
  ·dsimp only [sumF] at hF
   refine AI (OL ?_) TV
   obtain ⟨z12,hz12,hF⟩ := bindE hF
   refine loopI ((List ByteArray)×(List (ByteArray×Int×Int))) (Sum Unit (List (ByteArray×Int×Int))) (fun x=>⟨[(0,.dat T2 x.1),(2,P0 0 0),(5,P0 1 0)],[(0,.cells [N0,N0]),(1,.cells [(.osl 2),(.osl 3)]),(2,.arr 3 T1 r4.2),(3,.arr 70 T3 x.2)],4⟩) (fun z=>Sum.elim (fun za=>[(1,⟨[(2,P0 0 0),(3,.dat .bool false)],[(0,.cells [N0,N0])],1⟩)]) (fun zb=>[(2,⟨[(2,P0 0 0),(5,P0 1 0)],[(0,.cells [N0,N0]),(1,.cells [(.osl 2),(.osl 3)]),(2,.arr 3 T1 r4.2),(3,.arr 70 T3 zb)],4⟩)]) z) (loopF (fun go x=>f33_l7 go x.1 x.2)) fuelN (r4.1,[]) z12 (AI hz12 (AI (E4 [(0,some 0),(1,some 1),(2,some 2),(3,none)] (R2 (AI (R2 TV) (R4 TV)))) (AI (fun _ _ h=>loopZ h) (AI (fun m=>curI (fun w_2=>fun l3 z hF=>?_)) ?_))))
   ·have hF : f33_l7 (loopF (fun go x=>f33_l7 go x.1 x.2) m) w_2 l3 = some z := hF
    unfold f33_l7 at hF
    refine OL (OL (condI hF (fun hF=>?_) (fun hF=>?_)))
    ·refine OL (guardI hF (fun hF=>?_))
     refine OL (OL (guardI hF (fun hF=>?_)))
     obtain ⟨r13,hr13,hF⟩ := bindE hF
     refine OL (AI f58_in (callV0 (callI C58 (List.drop (Int.toNat (1:Int)) w_2) r13 [] false C58_holds hr13 rfl rfl (AI rfl (AI (fun h=>nomatch h) (R2 (AI TV (AI TV (OL (OL ?_))))))))))
     obtain ⟨r14,hr14,hF⟩ := bindE hF
     refine OL (AI f38_in (callV0 (callI C38 (rd (Ty.z .str) w_2 (0:Int)) r14 [] false C38_holds hr14 rfl rfl (AI rfl (AI (fun h=>nomatch h) (R2 (AI TV (AI TV (condI hF (fun hF=>?_) (fun hF=>?_))))))))))
     ·refine OL (OL ?_)
      have hz := someE hF
      subst hz
      refine E4 [(0,some 0)] (R2 (AI (AI rfl TV) (AI rfl TV)))
     refine OL (OL (OL (guardI hF (fun hF=>?_))))
     refine EI (.take 0 (.take 1 (.take 2 (.take 3 (.take 4 (.take 5 (.take 6 (.take 7 (.take 8 (.take 9 (.alt 10 (.alt 11 (.take 12 (.alt 13 .done .done)) .done) .done))))))))))) (EI [(13,[1])] (EI [] (AI rfl (guardI hF (fun hF=>?_)))))
     refine guardI hF (fun hF=>?_)
     refine AI TV (OL (AI TV (OL (guardI hF (fun hF=>?_)))))
     refine AI TV (OL (EI (r13.1,(l3 ++ ([((rd (Ty.z .str) w_2 (0:Int)),(rd (0:Int) (r13.2 ++ ([(0:Int),(0:Int)])) (0:Int)),(rd (0:Int) (r13.2 ++ ([(0:Int),(0:Int)])) (1:Int)))]))) (AI hF (E4 [(0,some 0),(1,some 1),(2,some 2),(3,some 8)] (R2 (AI (R2 TV) (R4 TV)))))))
    have hz := someE hF
    subst hz
    refine E4 [(0,some 0),(1,some 1),(2,some 2),(3,some 3)] (AI rfl (AI (R2 TV) (R4 TV)))
   rcases z12 with z12a | z12b
   ·dsimp only [sumF] at hF
    refine AI ?_ TV
    have hy := someE hF
    subst hy
    refine AI rfl (E4 [(0,none),(1,none)] (R2 (AI (AI rfl TV) (R2 TV))))
   dsimp only [sumF] at hF
   refine AI (OL (OL ?_)) TV
   have hy := someE hF
   subst hy
   refine AI rfl (E4 [(0,some 2),(1,some 3)] (R2 (AI (AI rfl TV) (R2 TV))))
  dsimp only [sumF] at hF
  refine AI ?_ TV
  have hy := someE hF
  subst hy
  refine AI rfl (E4 [(0,none),(1,none)] (R2 (AI (AI rfl TV) (R2 TV))))
 dsimp only [sumF] at hF
 refine AI ?_ TV
 have hy := someE hF
 subst hy
 refine AI rfl (E4 [(0,none),(1,none)] (R2 (AI (AI rfl TV) (R2 TV))))
theorem C33_holds : C33.Holds Tryz.prog 33 := holds_of_vc tab_ok mixed (fn := Tryz.f33) (by kernel_rfl) rfl C33 (fun x y hF=>C33_vc x y hF)
theorem f33_in : InP 33 := ⟨Tryz.f33,by kernel_rfl,by kernel_rfl,by kernel_rfl⟩
def f60 (v:Int) (most:Int) : Option Bool :=
 bif (decide (v ≥ (1:Int))) then
 some (decide (v ≤ most))
 else
 some false
def C60 : Con where
 X := Int×Int
 Y := Bool
 e := 0
 args x := [.dat T1 x.1,.dat T1 x.2]
 hin x := []
 F x := f60 x.1 x.2
 ret y := [.dat .bool y]
 hout y := []
 nout := 0
theorem C60_vc (v:Int) (most:Int) (y : Bool) (hF : f60 v most = some y) : VC Tryz.f60 C60 (v,most) y := by
 unfold f60 at hF
 refine OL (OL (condI hF (fun hF=>?_) (fun hF=>?_)))
 ·refine gdYT (gdYT (condT ?_))
  have hy := someE hF
  subst hy
  refine AI rfl (E4 [] (R2 (AI TV TV)))
 refine gdNT (gdNT (condF ?_))
 have hy := someE hF
 subst hy
 refine AI rfl (E4 [] (R2 (AI TV TV)))
theorem C60_holds : C60.Holds Tryz.prog 60 := holds_of_vc tab_ok mixed (fn := Tryz.f60) (by kernel_rfl) rfl C60 (fun x y hF=>C60_vc x.1 x.2 y hF)
theorem f60_in : InP 60 := ⟨Tryz.f60,by kernel_rfl,by kernel_rfl,by kernel_rfl⟩
def f59_j1 (l : ByteArray×Int×Int) : Option (Sum Unit Unit) :=
 bindF (f38 l.1) fun r3 =>
 bif (decide (r3 < (2:Int))) then
 bif (l.2.2 != (0:Int)) then
 some (Sum.inr ())
 else
 some (Sum.inl ())
 else
 some (Sum.inl ())
def f59 (l : ByteArray×Int×Int) : Option Bool :=
 bindF (f59_j1 l) fun z2 =>
 sumF z2 (fun z2a =>
 bif (ByteArray.toList l.1 == ByteArray.toList (ByteArray.mk #[100,101,110,115,101])) then
 bindF (f60 l.2.1 (256:Int)) fun r4 =>
 some r4
 else
 bif (ByteArray.toList l.1 == ByteArray.toList (ByteArray.mk #[99,111,110,118])) then
 bindF (f60 l.2.1 (16:Int)) fun r5 =>
 bif r5 then
 bindF (f60 l.2.2 (16:Int)) fun r6 =>
 some r6
 else
 some false
 else
 bif (ByteArray.toList l.1 == ByteArray.toList (ByteArray.mk #[112,111,111,108])) then
 bindF (f60 l.2.1 (16:Int)) fun r7 =>
 some r7
 else
 bif (ByteArray.toList l.1 == ByteArray.toList (ByteArray.mk #[98,101,110,100])) then
 bindF (f60 l.2.1 (5:Int)) fun r8 =>
 some r8
 else
 bif (ByteArray.toList l.1 == ByteArray.toList (ByteArray.mk #[115,107,105,112])) then
 some (l.2.1 == (0:Int))
 else
 some false) (fun z2b =>
 some false)
def C59 : Con where
 X := ByteArray×Int×Int
 Y := Bool
 e := 0
 args x := [.dat T3 x]
 hin x := []
 F x := f59 x
 ret y := [.dat .bool y]
 hout y := []
 nout := 0
theorem C59_vc (l : ByteArray×Int×Int) (y : Bool) (hF : f59 l = some y) : VC Tryz.f59 C59 l y := by
 unfold f59 at hF
 refine OL ?_
 obtain ⟨z2,hz2,hF⟩ := bindE hF
 refine OQ ⟨Sum.elim (fun z2a=>[(0,⟨[(1,P0 0 0)],[(0,.cells [(.d .str l.1),(.d T1 l.2.1),(.d T1 l.2.2)])],1⟩)]) (fun z2b=>[(1,⟨[(2,.dat .bool false)],[],0⟩)]) z2,?_,?_⟩
 ·have hF := hz2
  clear hz2
  unfold f59_j1 at hF
  refine OL ?_
  obtain ⟨r3,hr3,hF⟩ := bindE hF
  refine OL (AI f38_in (callV0 (callI C38 l.1 r3 [] false C38_holds hr3 rfl rfl (AI rfl (AI (fun h=>nomatch h) (R2 (AI TV (AI TV (condI hF (fun hF=>?_) (fun hF=>?_))))))))))
  ·refine gdYT (gdYT (condT (condI hF (fun hF=>?_) (fun hF=>?_))))
   ·refine OL ?_
    have hz := someE hF
    subst hz
    refine E4 [] (R2 (AI TV TV))
   have hz := someE hF
   subst hz
   refine E4 [(0,some 0)] (AI rfl (AI (AI rfl TV) (AI rfl TV)))
  refine gdNT (gdNT (condF (condF ?_)))
  have hz := someE hF
  subst hz
  refine E4 [(0,some 0)] (AI rfl (AI (AI rfl TV) (AI rfl TV)))
 rcases z2 with z2a | z2b
 ·dsimp only [sumF] at hF
  refine AI (OL (OL (OL (condI hF (fun hF=>?_) (fun hF=>?_))))) TV
  ·refine OL ?_
   obtain ⟨r4,hr4,hF⟩ := bindE hF
   refine OL (AI f60_in (callV0 (callI C60 (l.2.1,(256:Int)) r4 [] false C60_holds hr4 rfl rfl (R2 (AI (fun h=>nomatch h) (R2 (AI TV (AI TV ?_))))))))
   have hy := someE hF
   subst hy
   refine AI rfl (E4 [] (R2 (AI TV TV)))
  refine OL (condI hF (fun hF=>?_) (fun hF=>?_))
  ·refine OL ?_
   obtain ⟨r5,hr5,hF⟩ := bindE hF
   refine OL (AI f60_in (callV0 (callI C60 (l.2.1,(16:Int)) r5 [] false C60_holds hr5 rfl rfl (R2 (AI (fun h=>nomatch h) (R2 (AI TV (AI TV (condI hF (fun hF=>?_) (fun hF=>?_))))))))))
   ·refine gdYT (gdYT ?_)
    obtain ⟨r6,hr6,hF⟩ := bindE hF
    refine OL (AI f60_in (callV0 (callI C60 (l.2.2,(16:Int)) r6 [] false C60_holds hr6 rfl rfl (R2 (AI (fun h=>nomatch h) (R2 (AI TV (AI TV (condT ?_)))))))))
    have hy := someE hF
    subst hy
    refine AI rfl (E4 [] (R2 (AI TV TV)))
   refine gdNT (gdNT (condF ?_))
   have hy := someE hF
   subst hy
   refine AI rfl (E4 [] (R2 (AI TV TV)))
  refine OL (condI hF (fun hF=>?_) (fun hF=>?_))
  ·refine OL ?_
   obtain ⟨r7,hr7,hF⟩ := bindE hF
   refine OL (AI f60_in (callV0 (callI C60 (l.2.1,(16:Int)) r7 [] false C60_holds hr7 rfl rfl (R2 (AI (fun h=>nomatch h) (R2 (AI TV (AI TV ?_))))))))
   have hy := someE hF
   subst hy
   refine AI rfl (E4 [] (R2 (AI TV TV)))
  refine OL (condI hF (fun hF=>?_) (fun hF=>?_))
  ·refine OL ?_
   obtain ⟨r8,hr8,hF⟩ := bindE hF
   refine OL (AI f60_in (callV0 (callI C60 (l.2.1,(5:Int)) r8 [] false C60_holds hr8 rfl rfl (R2 (AI (fun h=>nomatch h) (R2 (AI TV (AI TV ?_))))))))
   have hy := someE hF
   subst hy
   refine AI rfl (E4 [] (R2 (AI TV TV)))
  refine OL (condI hF (fun hF=>?_) (fun hF=>?_))
  ·refine gdYT (gdYT (condT ?_))
   have hy := someE hF
   subst hy
   refine AI rfl (E4 [] (R2 (AI TV TV)))
  refine gdNT (gdNT (condF ?_))
  have hy := someE hF
  subst hy
  refine AI rfl (E4 [] (R2 (AI TV TV)))
 dsimp only [sumF] at hF
 refine AI ?_ TV
 have hy := someE hF
 subst hy
 refine AI rfl (E4 [] (R2 (AI TV TV)))
theorem C59_holds : C59.Holds Tryz.prog 59 := holds_of_vc tab_ok mixed (fn := Tryz.f59) (by kernel_rfl) rfl C59 (fun x y hF=>C59_vc x y hF)
theorem f59_in : InP 59 := ⟨Tryz.f59,by kernel_rfl,by kernel_rfl,by kernel_rfl⟩
def f34_l1 (n : (List Int)×(List (ByteArray×Int×Int))) (go : Int → Option (Sum Unit Unit)) (v8:Int) : Option (Sum Unit Unit) :=
 bif (decide (v8 < (List.length n.2:Int))) then
 guardF (0 ≤ v8 ∧ v8 < (List.length n.2:Int)) <|
 bindF (f59 ((rd (Ty.z T3) n.2 v8).1,((rd (Ty.z T3) n.2 v8).2).1,((rd (Ty.z T3) n.2 v8).2).2)) fun r4 =>
 bif (!r4) then
 some (Sum.inl ())
 else
 go (i64.wrap (v8 + (1:Int)))
 else
 some (Sum.inr ())
def f34 (n : (List Int)×(List (ByteArray×Int×Int))) : Option Bool :=
 bindF (loopF (fun go x=>f34_l1 n go x) fuelN (0:Int)) fun z3 =>
 sumF z3 (fun z3a =>
 some false) (fun z3b =>
 bif ((List.length n.1:Int) == (1:Int)) then
 guardF (0 ≤ (0:Int) ∧ (0:Int) < (List.length n.1:Int)) <|
 bindF (f60 (rd (0:Int) n.1 (0:Int)) (1024:Int)) fun r5 =>
 some r5
 else
 bif ((List.length n.1:Int) == (2:Int)) then
 guardF (0 ≤ (0:Int) ∧ (0:Int) < (List.length n.1:Int)) <|
 bindF (f60 (rd (0:Int) n.1 (0:Int)) (64:Int)) fun r6 =>
 bif r6 then
 guardF (0 ≤ (1:Int) ∧ (1:Int) < (List.length n.1:Int)) <|
 bindF (f60 (rd (0:Int) n.1 (1:Int)) (64:Int)) fun r7 =>
 some r7
 else
 some false
 else
 some false)
def C34 : Con where
 X := (List Int)×(List (ByteArray×Int×Int))
 Y := Bool
 e := 0
 args x := [.dat T4 x]
 hin x := []
 F x := f34 x
 ret y := [.dat .bool y]
 hout y := []
 nout := 0
theorem C34_vc (n : (List Int)×(List (ByteArray×Int×Int))) (y : Bool) (hF : f34 n = some y) : VC Tryz.f34 C34 n y := by
 unfold f34 at hF
 refine OL (OL (OL ?_))
 obtain ⟨z3,hz3,hF⟩ := bindE hF
 refine loopI Int (Sum Unit Unit) (fun x=>⟨[(1,P0 0 0),(6,.dat T5 n.2),(7,.dat T1 (List.length n.2:Int)),(8,.dat T1 x)],[(0,.cells [(.d T6 n.1),(.d T5 n.2)])],1⟩) (fun z=>Sum.elim (fun za=>[(1,⟨[(2,.dat .bool false)],[],0⟩)]) (fun zb=>[(2,⟨[(1,P0 0 0)],[(0,.cells [(.d T6 n.1),(.d T5 n.2)])],1⟩)]) z) (loopF (fun go x=>f34_l1 n go x)) fuelN (0:Int) z3 (AI hz3 (AI (E4 [(0,some 0)] (R4 (AI (AI rfl TV) (AI rfl TV)))) (AI (fun _ _ h=>loopZ h) (AI (fun m=>fun v8 z hF=>?_) ?_))))
 ·have hF : f34_l1 n (loopF (fun go x=>f34_l1 n go x) m) v8 = some z := hF
  unfold f34_l1 at hF
  refine OL (OL (condI hF (fun hF=>?_) (fun hF=>?_)))
  ·refine OL (OL (guardI hF (fun hF=>?_)))
   refine OL (OL ?_)
   obtain ⟨r4,hr4,hF⟩ := bindE hF
   refine OL (AI f59_in (callV0 (callI C59 ((rd (Ty.z T3) n.2 v8).1,((rd (Ty.z T3) n.2 v8).2).1,((rd (Ty.z T3) n.2 v8).2).2) r4 [] false C59_holds hr4 rfl rfl (R2 (AI (fun h=>nomatch h) (R2 (AI TV (AI TV (condI hF (fun hF=>?_) (fun hF=>?_))))))))))
   ·refine OL ?_
    have hz := someE hF
    subst hz
    refine E4 [] (R2 (AI TV TV))
   refine EI (i64.wrap (v8 + (1:Int))) (AI hF (E4 [(0,some 0)] (R4 (AI (AI rfl TV) (AI rfl TV)))))
  have hz := someE hF
  subst hz
  refine E4 [(0,some 0)] (AI rfl (AI (AI rfl TV) (AI rfl TV)))
 rcases z3 with z3a | z3b
 ·dsimp only [sumF] at hF
  refine AI ?_ TV
  have hy := someE hF
  subst hy
  refine AI rfl (E4 [] (R2 (AI TV TV)))
 dsimp only [sumF] at hF
 refine AI (OL (OL (OL (condI hF (fun hF=>?_) (fun hF=>?_))))) TV
 ·refine OL (guardI hF (fun hF=>?_))
  obtain ⟨r5,hr5,hF⟩ := bindE hF
  refine OL (AI f60_in (callV0 (callI C60 ((rd (0:Int) n.1 (0:Int)),(1024:Int)) r5 [] false C60_holds hr5 rfl rfl (R2 (AI (fun h=>nomatch h) (R2 (AI TV (AI TV ?_))))))))
  have hy := someE hF
  subst hy
  refine AI rfl (E4 [] (R2 (AI TV TV)))
 refine OL (condI hF (fun hF=>?_) (fun hF=>?_))
 ·refine OL (guardI hF (fun hF=>?_))
  obtain ⟨r6,hr6,hF⟩ := bindE hF
  refine OL (AI f60_in (callV0 (callI C60 ((rd (0:Int) n.1 (0:Int)),(64:Int)) r6 [] false C60_holds hr6 rfl rfl (R2 (AI (fun h=>nomatch h) (R2 (AI TV (AI TV (condI hF (fun hF=>?_) (fun hF=>?_))))))))))
  ·refine gdYT (gdYT (guardI hF (fun hF=>?_)))
   refine gdYT (gdYT ?_)
   obtain ⟨r7,hr7,hF⟩ := bindE hF
   refine OL (AI f60_in (callV0 (callI C60 ((rd (0:Int) n.1 (1:Int)),(64:Int)) r7 [] false C60_holds hr7 rfl rfl (R2 (AI (fun h=>nomatch h) (R2 (AI TV (AI TV (condT ?_)))))))))
   have hy := someE hF
   subst hy
   refine AI rfl (E4 [] (R2 (AI TV TV)))
  refine gdNT (gdNT (gdNT (gdNT (condF ?_))))
  have hy := someE hF
  subst hy
  refine AI rfl (E4 [] (R2 (AI TV TV)))
 refine OL ?_
 have hy := someE hF
 subst hy
 refine AI rfl (E4 [] (R2 (AI TV TV)))
theorem C34_holds : C34.Holds Tryz.prog 34 := holds_of_vc tab_ok mixed (fn := Tryz.f34) (by kernel_rfl) rfl C34 (fun x y hF=>C34_vc x y hF)
theorem f34_in : InP 34 := ⟨Tryz.f34,by kernel_rfl,by kernel_rfl,by kernel_rfl⟩
def f61 (s : List Int) : Option (List Int) :=
 nilF s
 (some ([]))
 (guardF ((List.length ([] : List Int) + List.length s) * 8 ≤ 140737488355328) <|
 some (([] : List Int) ++ s))
def C61 : Con where
 X := List Int
 Y := List Int
 e := 0
 args x := [.dat T6 x]
 hin x := []
 F x := f61 x
 ret y := [O0 0]
 hout y := [(0,.arr 3 T1 y)]
 nout := 1
theorem C61_vc (s : List Int) (y : List Int) (hF : f61 s = some y) : VC Tryz.f61 C61 s y := by
 unfold f61 at hF
 refine OL (OL (OL (nilI hF (fun hF=>?_) (fun hF=>?_))))
 ·refine condT (OL ?_)
  have hy := someE hF
  subst hy
  refine AI rfl (E4 [(0,none)] (AI rfl (AI (AI rfl TV) (AI rfl TV))))
 refine condF (OL (OL (OL (guardI hF (fun hF=>?_)))))
 have hy := someE hF
 subst hy
 refine AI rfl (E4 [(0,some 1)] (AI rfl (AI (AI rfl TV) (AI rfl TV))))
theorem C61_holds : C61.Holds Tryz.prog 61 := holds_of_vc tab_ok mixed (fn := Tryz.f61) (by kernel_rfl) rfl C61 (fun x y hF=>C61_vc x y hF)
theorem f61_in : InP 61 := ⟨Tryz.f61,by kernel_rfl,by kernel_rfl,by kernel_rfl⟩
def f62_j1 (l : ByteArray×Int×Int) (in_ : List Int) : Option (Sum Unit Unit) :=
 bif ((List.length in_:Int) != (2:Int)) then
 some (Sum.inr ())
 else
 guardF (0 ≤ (1:Int) ∧ (1:Int) < (List.length in_:Int)) <|
 bif (decide (l.2.2 > (rd (0:Int) in_ (1:Int)))) then
 some (Sum.inr ())
 else
 some (Sum.inl ())
def f62_j2 (l : ByteArray×Int×Int) (in_ : List Int) : Option (Sum Unit Unit) :=
 bif ((List.length in_:Int) != (2:Int)) then
 some (Sum.inr ())
 else
 guardF (0 ≤ (1:Int) ∧ (1:Int) < (List.length in_:Int)) <|
 bif (decide (l.2.1 > (rd (0:Int) in_ (1:Int)))) then
 some (Sum.inr ())
 else
 some (Sum.inl ())
def f62 (l : ByteArray×Int×Int) (in_ : List Int) : Option (Bool×(List Int)) :=
 bif (ByteArray.toList l.1 == ByteArray.toList (ByteArray.mk #[100,101,110,115,101])) then
 some (true,[l.2.1])
 else
 bif (ByteArray.toList l.1 == ByteArray.toList (ByteArray.mk #[99,111,110,118])) then
 bindF (f62_j1 l in_) fun z1 =>
 sumF z1 (fun z1a =>
 guardF (0 ≤ (1:Int) ∧ (1:Int) < (List.length in_:Int)) <|
 some (true,[l.2.1,(i64.wrap ((i64.wrap ((rd (0:Int) in_ (1:Int)) - l.2.2)) + (1:Int)))])) (fun z1b =>
 some (false,[]))
 else
 bif (ByteArray.toList l.1 == ByteArray.toList (ByteArray.mk #[112,111,111,108])) then
 bindF (f62_j2 l in_) fun z2 =>
 sumF z2 (fun z2a =>
 guardF (0 ≤ (0:Int) ∧ (0:Int) < (List.length in_:Int)) <|
 guardF (0 ≤ (1:Int) ∧ (1:Int) < (List.length in_:Int)) <|
 guardF (l.2.1 ≠ 0) <|
 some (true,[(rd (0:Int) in_ (0:Int)),(i64.wrap (Int.tdiv (rd (0:Int) in_ (1:Int)) l.2.1))])) (fun z2b =>
 some (false,[]))
 else
 bindF (f61 in_) fun q11_11 =>
 some (true,q11_11)
def C62 : Con where
 X := (ByteArray×Int×Int)×(List Int)
 Y := Bool×(List Int)
 e := 0
 args x := [.dat T3 x.1,.dat T6 x.2]
 hin x := []
 F x := f62 x.1 x.2
 ret y := [O0 0,.dat .bool y.1]
 hout y := [(0,.arr 3 T1 y.2)]
 nout := 1
theorem C62_vc (l : ByteArray×Int×Int) (in_ : List Int) (y : Bool×(List Int)) (hF : f62 l in_ = some y) : VC Tryz.f62 C62 (l,in_) y := by
 unfold f62 at hF
 refine OL (OL (OL (OL (condI hF (fun hF=>?_) (fun hF=>?_)))))
 ·refine OL (OL ?_)
  have hy := someE hF
  subst hy
  refine AI rfl (E4 [(0,some 1)] (R2 (AI (AI rfl TV) (AI rfl TV))))
 refine OL (condI hF (fun hF=>?_) (fun hF=>?_))
 ·obtain ⟨z1,hz1,hF⟩ := bindE hF
  refine OQ ⟨Sum.elim (fun z1a=>[(0,⟨[(1,.dat T6 in_),(2,P0 0 0)],[(0,.cells [(.d .str l.1),(.d T1 l.2.1),(.d T1 l.2.2)])],1⟩)]) (fun z1b=>[(1,⟨[(4,.raw false [N0]),(5,.dat .bool false)],[],0⟩)]) z1,?_,?_⟩
  ·have hF := hz1
   clear hz1
   unfold f62_j1 at hF
   refine OL (EI (.take 0 (.take 1 (.take 2 (.take 3 (.take 4 (.take 5 (.take 6 (.take 7 (.take 8 (.take 9 (.take 10 .done))))))))))) (EI [] (EI [] (AI rfl (condN hF (fun hF=>?_) (fun hF=>?_))))))
   ·refine gdYF (gdYF (gdYF (guardI hF (fun hF=>?_))))
    refine gdYF (gdYF (condF (condI hF (fun hF=>?_) (fun hF=>?_))))
    ·refine OL ?_
     have hz := someE hF
     subst hz
     refine E4 [] (R2 (AI (AI rfl TV) TV))
    have hz := someE hF
    subst hz
    refine E4 [(0,some 0)] (R2 (AI (AI rfl TV) (AI rfl TV)))
   refine gdNF (gdNF (gdNF (gdNF (gdNF (condT (condT (OL ?_)))))))
   have hz := someE hF
   subst hz
   refine E4 [] (R2 (AI (AI rfl TV) TV))
  rcases z1 with z1a | z1b
  ·dsimp only [sumF] at hF
   refine AI (OL (EI (.take 0 (.take 1 (.take 2 (.take 3 (.take 4 (.take 5 (.take 6 (.take 7 (.take 8 (.alt 9 (.take 10 (.take 11 .done)) .done)))))))))) (EI [] (EI [] (AI rfl (guardI hF (fun hF=>?_))))))) TV
   refine AI TV (OL ?_)
   have hy := someE hF
   subst hy
   refine AI rfl (E4 [(0,some 1)] (R2 (AI (AI rfl TV) (AI rfl TV))))
  dsimp only [sumF] at hF
  refine AI ?_ TV
  have hy := someE hF
  subst hy
  refine AI rfl (E4 [(0,none)] (R2 (AI (AI rfl TV) (AI rfl TV))))
 refine OL (condI hF (fun hF=>?_) (fun hF=>?_))
 ·obtain ⟨z2,hz2,hF⟩ := bindE hF
  refine OQ ⟨Sum.elim (fun z2a=>[(0,⟨[(1,.dat T6 in_),(2,P0 0 0)],[(0,.cells [(.d .str l.1),(.d T1 l.2.1),(.d T1 l.2.2)])],1⟩)]) (fun z2b=>[(1,⟨[(4,.raw false [N0]),(5,.dat .bool false)],[],0⟩)]) z2,?_,?_⟩
  ·have hF := hz2
   clear hz2
   unfold f62_j2 at hF
   refine OL (EI (.take 0 (.take 1 (.take 2 (.take 3 (.take 4 (.take 5 (.take 6 (.take 7 (.take 8 (.take 9 (.take 10 .done))))))))))) (EI [] (EI [] (AI rfl (condN hF (fun hF=>?_) (fun hF=>?_))))))
   ·refine gdYF (gdYF (gdYF (guardI hF (fun hF=>?_))))
    refine gdYF (gdYF (condF (condI hF (fun hF=>?_) (fun hF=>?_))))
    ·refine OL ?_
     have hz := someE hF
     subst hz
     refine E4 [] (R2 (AI (AI rfl TV) TV))
    have hz := someE hF
    subst hz
    refine E4 [(0,some 0)] (R2 (AI (AI rfl TV) (AI rfl TV)))
   refine gdNF (gdNF (gdNF (gdNF (gdNF (condT (condT (OL ?_)))))))
   have hz := someE hF
   subst hz
   refine E4 [] (R2 (AI (AI rfl TV) TV))
  rcases z2 with z2a | z2b
  ·dsimp only [sumF] at hF
   refine AI (OL (EI (.take 0 (.take 1 (.take 2 (.take 3 (.take 4 (.take 5 (.take 6 (.take 7 (.take 8 (.alt 9 (.take 10 (.take 11 .done)) .done)))))))))) (EI [] (EI [] (AI rfl (guardI hF (fun hF=>?_))))))) TV
   refine guardI hF (fun hF=>?_)
   refine guardI hF (fun hF=>?_)
   refine AI TV (OL ?_)
   have hy := someE hF
   subst hy
   refine AI rfl (E4 [(0,some 1)] (R2 (AI (AI rfl TV) (AI rfl TV))))
  dsimp only [sumF] at hF
  refine AI ?_ TV
  have hy := someE hF
  subst hy
  refine AI rfl (E4 [(0,none)] (R2 (AI (AI rfl TV) (AI rfl TV))))
 refine OL ?_
 obtain ⟨q11_11,hq11_11,hF⟩ := bindE hF
 refine OL (AI f61_in (callV0 (callI C61 in_ q11_11 [] false C61_holds hq11_11 rfl rfl (AI rfl (AI (fun h=>nomatch h) (R2 (AI TV (AI TV ?_))))))))
 have hy := someE hF
 subst hy
 refine AI rfl (E4 [(0,some 1)] (R2 (AI (AI rfl TV) (AI rfl TV))))
theorem C62_holds : C62.Holds Tryz.prog 62 := holds_of_vc tab_ok mixed (fn := Tryz.f62) (by kernel_rfl) rfl C62 (fun x y hF=>C62_vc x.1 x.2 y hF)
theorem f62_in : InP 62 := ⟨Tryz.f62,by kernel_rfl,by kernel_rfl,by kernel_rfl⟩
def f115_l1 (s1 : List Int) (s2 : List Int) (go : Int → Option (Sum Unit Unit)) (v13:Int) : Option (Sum Unit Unit) :=
 bif (decide (v13 < (List.length s1:Int))) then
 guardF (0 ≤ v13 ∧ v13 < (List.length s1:Int)) <|
 guardF (0 ≤ v13 ∧ v13 < (List.length s2:Int)) <|
 bif ((rd (0:Int) s1 v13) != (rd (0:Int) s2 v13)) then
 some (Sum.inl ())
 else
 go (i64.wrap (v13 + (1:Int)))
 else
 some (Sum.inr ())
def f115 (s1 : List Int) (s2 : List Int) : Option Bool :=
 bif ((List.length s1:Int) != (List.length s2:Int)) then
 some false
 else
 bindF (loopF (fun go x=>f115_l1 s1 s2 go x) fuelN (0:Int)) fun z1 =>
 sumF z1 (fun z1a =>
 some false) (fun z1b =>
 some true)
def C115 : Con where
 X := (List Int)×(List Int)
 Y := Bool
 e := 0
 args x := [.dat T6 x.1,.dat T6 x.2]
 hin x := []
 F x := f115 x.1 x.2
 ret y := [.dat .bool y]
 hout y := []
 nout := 0
theorem C115_vc (s1 : List Int) (s2 : List Int) (y : Bool) (hF : f115 s1 s2 = some y) : VC Tryz.f115 C115 (s1,s2) y := by
 unfold f115 at hF
 refine OL (OL (OL (condI hF (fun hF=>?_) (fun hF=>?_))))
 ·refine OL ?_
  have hy := someE hF
  subst hy
  refine AI rfl (E4 [] (R2 (AI TV TV)))
 refine OL (OL ?_)
 obtain ⟨z1,hz1,hF⟩ := bindE hF
 refine loopI Int (Sum Unit Unit) (fun x=>⟨[(0,.dat T6 s1),(1,.dat T6 s2),(12,.dat T1 (List.length s1:Int)),(13,.dat T1 x)],[],0⟩) (fun z=>Sum.elim (fun za=>[(1,⟨[(4,.dat .bool false)],[],0⟩)]) (fun zb=>[(2,⟨[],[],0⟩)]) z) (loopF (fun go x=>f115_l1 s1 s2 go x)) fuelN (0:Int) z1 (AI hz1 (AI (E4 [] (R5 (AI TV TV))) (AI (fun _ _ h=>loopZ h) (AI (fun m=>fun v13 z hF=>?_) ?_))))
 ·have hF : f115_l1 s1 s2 (loopF (fun go x=>f115_l1 s1 s2 go x) m) v13 = some z := hF
  unfold f115_l1 at hF
  refine OL (OL (condI hF (fun hF=>?_) (fun hF=>?_)))
  ·refine OL (OL (OL (EI (.take 0 (.take 1 (.take 2 (.take 3 (.take 4 (.take 5 (.take 6 (.take 7 (.take 8 .done))))))))) (EI [] (EI [] (AI rfl (guardI hF (fun hF=>?_))))))))
   refine guardI hF (fun hF=>?_)
   refine condI hF (fun hF=>?_) (fun hF=>?_)
   ·refine OL ?_
    have hz := someE hF
    subst hz
    refine E4 [] (R2 (AI TV TV))
   refine EI (i64.wrap (v13 + (1:Int))) (AI hF (E4 [] (R5 (AI TV TV))))
  have hz := someE hF
  subst hz
  refine E4 [] (AI rfl (AI TV TV))
 rcases z1 with z1a | z1b
 ·dsimp only [sumF] at hF
  refine AI ?_ TV
  have hy := someE hF
  subst hy
  refine AI rfl (E4 [] (R2 (AI TV TV)))
 dsimp only [sumF] at hF
 refine AI (OL ?_) TV
 have hy := someE hF
 subst hy
 refine AI rfl (E4 [] (R2 (AI TV TV)))
theorem C115_holds : C115.Holds Tryz.prog 115 := holds_of_vc tab_ok mixed (fn := Tryz.f115) (by kernel_rfl) rfl C115 (fun x y hF=>C115_vc x.1 x.2 y hF)
theorem f115_in : InP 115 := ⟨Tryz.f115,by kernel_rfl,by kernel_rfl,by kernel_rfl⟩
def f88 (a : List Int) (b : List Int) : Option Bool :=
 bindF (f115 a b) fun r1 =>
 some r1
def C88 : Con where
 X := (List Int)×(List Int)
 Y := Bool
 e := 0
 args x := [.dat T6 x.1,.dat T6 x.2]
 hin x := []
 F x := f88 x.1 x.2
 ret y := [.dat .bool y]
 hout y := []
 nout := 0
theorem C88_vc (a : List Int) (b : List Int) (y : Bool) (hF : f88 a b = some y) : VC Tryz.f88 C88 (a,b) y := by
 unfold f88 at hF
 refine OL (OL ?_)
 obtain ⟨r1,hr1,hF⟩ := bindE hF
 refine OL (AI f115_in (callV0 (callI C115 (a,b) r1 [] false C115_holds hr1 rfl rfl (R2 (AI (fun h=>nomatch h) (R2 (AI TV (AI TV ?_))))))))
 have hy := someE hF
 subst hy
 refine AI rfl (E4 [] (R2 (AI TV TV)))
theorem C88_holds : C88.Holds Tryz.prog 88 := holds_of_vc tab_ok mixed (fn := Tryz.f88) (by kernel_rfl) rfl C88 (fun x y hF=>C88_vc x.1 x.2 y hF)
theorem f88_in : InP 88 := ⟨Tryz.f88,by kernel_rfl,by kernel_rfl,by kernel_rfl⟩
def f63 (n : (List Int)×(List (ByteArray×Int×Int))) (i:Int) (d : List (List Int)) : Option Bool :=
 bif (decide (i > (0:Int))) then
 guardF (0 ≤ (i64.wrap (i - (1:Int))) ∧ (i64.wrap (i - (1:Int))) < (List.length n.2:Int)) <|
 bif (!(ByteArray.toList ((rd (Ty.z T3) n.2 (i64.wrap (i - (1:Int)))).1) == ByteArray.toList (ByteArray.mk #[115,107,105,112]))) then
 guardF (0 ≤ (i64.wrap (i - (1:Int))) ∧ (i64.wrap (i - (1:Int))) < (List.length d:Int)) <|
 guardF (0 ≤ i ∧ i < (List.length d:Int)) <|
 bindF (f88 (rd (Ty.z T6) d (i64.wrap (i - (1:Int)))) (rd (Ty.z T6) d i)) fun q1_22 =>
 some q1_22
 else
 some false
 else
 some false
def C63 : Con where
 X := ((List Int)×(List (ByteArray×Int×Int)))×Int×(List (List Int))
 Y := Bool
 e := 0
 args x := [.dat T4 x.1,.dat T1 x.2.1,.dat T7 x.2.2]
 hin x := []
 F x := f63 x.1 x.2.1 x.2.2
 ret y := [.dat .bool y]
 hout y := []
 nout := 0
theorem C63_vc (n : (List Int)×(List (ByteArray×Int×Int))) (i:Int) (d : List (List Int)) (y : Bool) (hF : f63 n i d = some y) : VC Tryz.f63 C63 (n,i,d) y := by
 unfold f63 at hF
 refine OL (OL (EI (.take 0 (.take 1 (.take 2 (.take 3 (.take 4 (.take 5 (.take 6 (.take 7 (.take 8 (.take 9 (.take 10 (.take 11 (.take 12 (.take 13 (.take 14 (.take 15 (.take 16 (.take 17 (.take 18 (.take 19 (.take 20 (.take 21 (.alt 22 (.take 23 (.take 24 .done)) .done))))))))))))))))))))))) (EI [] (EI [] (AI rfl (condI hF (fun hF=>?_) (fun hF=>?_)))))))
 ·refine gdYT (gdYT (gdYT (gdYT (guardI hF (fun hF=>?_)))))
  refine gdYT (gdYT (gdYT (condT (condI hF (fun hF=>?_) (fun hF=>?_)))))
  ·refine gdYT (gdYT (gdYT (guardI hF (fun hF=>?_))))
   refine gdYT (gdYT (gdYT (gdYT (guardI hF (fun hF=>?_)))))
   refine gdYT (AI TV (gdYT ?_))
   obtain ⟨q1_22,hq1_22,hF⟩ := bindE hF
   refine OL (AI f88_in (callV0 (callI C88 ((rd (Ty.z T6) d (i64.wrap (i - (1:Int)))),(rd (Ty.z T6) d i)) q1_22 [] false C88_holds hq1_22 rfl rfl (R2 (AI (fun h=>nomatch h) (R2 (AI TV (AI TV (condT ?_)))))))))
   have hy := someE hF
   subst hy
   refine AI rfl (E4 [] (R2 (AI TV TV)))
  refine gdNT (gdNT (gdNT (gdNT (gdNT (gdNT (gdNT (gdNT (AI TV (gdNT (condF ?_))))))))))
  have hy := someE hF
  subst hy
  refine AI rfl (E4 [] (R2 (AI TV TV)))
 refine gdNT (gdNT (gdNT (gdNT (gdNT (gdNT (gdNT (condF (gdNT (gdNT (gdNT (gdNT (gdNT (gdNT (gdNT (gdNT (gdNT (AI TV (gdNT (condF ?_)))))))))))))))))))
 have hy := someE hF
 subst hy
 refine AI rfl (E4 [] (R2 (AI TV TV)))
theorem C63_holds : C63.Holds Tryz.prog 63 := holds_of_vc tab_ok mixed (fn := Tryz.f63) (by kernel_rfl) rfl C63 (fun x y hF=>C63_vc x.1 x.2.1 x.2.2 y hF)
theorem f63_in : InP 63 := ⟨Tryz.f63,by kernel_rfl,by kernel_rfl,by kernel_rfl⟩
def f35_j4 (n : (List Int)×(List (ByteArray×Int×Int))) (v16:Int) (l1 : List (List Int)) (q5_5 : Bool×(List Int)) : Option (Sum Unit Unit) :=
 bif (!q5_5.1) then
 some (Sum.inr ())
 else
 bif (ByteArray.toList ((rd (Ty.z T3) n.2 v16).1) == ByteArray.toList (ByteArray.mk #[115,107,105,112])) then
 bindF (f63 (n.1,n.2) v16 l1) fun r8 =>
 bif (!r8) then
 some (Sum.inr ())
 else
 some (Sum.inl ())
 else
 some (Sum.inl ())
def f35_l3 (n : (List Int)×(List (ByteArray×Int×Int))) (go : (Int×(List (List Int))) → Option (Sum Unit (List (List Int)))) (v16:Int) (l1 : List (List Int)) : Option (Sum Unit (List (List Int))) :=
 bif (decide (v16 < (List.length n.2:Int))) then
 guardF (0 ≤ v16 ∧ v16 < (List.length n.2:Int)) <|
 guardF (0 ≤ v16 ∧ v16 < (List.length l1:Int)) <|
 bindF (f62 ((rd (Ty.z T3) n.2 v16).1,((rd (Ty.z T3) n.2 v16).2).1,((rd (Ty.z T3) n.2 v16).2).2) (rd (Ty.z T6) l1 v16)) fun q5_5 =>
 bindF (f35_j4 n v16 l1 q5_5) fun z7 =>
 sumF z7 (fun z7a =>
 guardF ((List.length l1 + List.length ([q5_5.2])) * 24 ≤ 140737488355328) <|
 go ((i64.wrap (v16 + (1:Int))),(l1 ++ ([q5_5.2])))) (fun z7b =>
 some (Sum.inl ()))
 else
 some (Sum.inr l1)
def f35 (n : (List Int)×(List (ByteArray×Int×Int))) : Option (Bool×(List (List Int))) :=
 bindF (f61 n.1) fun r1 =>
 bindF (loopF (fun go x=>f35_l3 n go x.1 x.2) fuelN ((0:Int),[r1])) fun z6 =>
 sumF z6 (fun z6a =>
 some (false,[])) (fun z6b =>
 some (true,z6b))
def C35 : Con where
 X := (List Int)×(List (ByteArray×Int×Int))
 Y := Bool×(List (List Int))
 e := 0
 args x := [.dat T4 x]
 hin x := []
 F x := f35 x
 ret y := [O0 0,.dat .bool y.1]
 hout y := [(0,.arr 23 T6 y.2)]
 nout := 1
theorem C35_vc (n : (List Int)×(List (ByteArray×Int×Int))) (y : Bool×(List (List Int))) (hF : f35 n = some y) : VC Tryz.f35 C35 n y := by
 unfold f35 at hF
 refine OL (OL ?_)
 obtain ⟨r1,hr1,hF⟩ := bindE hF
 refine OL (AI f61_in (callV0 (callI C61 n.1 r1 [] false C61_holds hr1 rfl rfl (AI rfl (AI (fun h=>nomatch h) (R2 (AI TV (AI TV (OL (OL (OL ?_)))))))))))
 obtain ⟨z6,hz6,hF⟩ := bindE hF
 refine loopI (Int×(List (List Int))) (Sum Unit (List (List Int))) (fun x=>⟨[(1,P0 0 0),(4,O0 1),(14,.dat T5 n.2),(15,.dat T1 (List.length n.2:Int)),(16,.dat T1 x.1)],[(0,.cells [(.d T6 n.1),(.d T5 n.2)]),(1,.arr 23 T6 x.2)],2⟩) (fun z=>Sum.elim (fun za=>[(1,⟨[(2,.raw false [N0]),(3,.dat .bool false)],[],0⟩)]) (fun zb=>[(2,⟨[(4,O0 0)],[(0,.arr 23 T6 zb)],1⟩)]) z) (loopF (fun go x=>f35_l3 n go x.1 x.2)) fuelN ((0:Int),[r1]) z6 (AI hz6 (AI (E4 [(0,some 0),(1,some 2)] (R4 (AI (R2 TV) (R2 TV)))) (AI (fun _ _ h=>loopZ h) (AI (fun m=>curI (fun v16=>fun l1 z hF=>?_)) ?_))))
 ·have hF : f35_l3 n (loopF (fun go x=>f35_l3 n go x.1 x.2) m) v16 l1 = some z := hF
  unfold f35_l3 at hF
  refine OL (OL (condI hF (fun hF=>?_) (fun hF=>?_)))
  ·refine OL (OL (guardI hF (fun hF=>?_)))
   refine OL (OL (EI (.take 0 (.take 1 (.take 2 (.take 3 (.take 4 (.alt 5 (.take 6 (.take 7 (.take 8 (.take 9 (.take 10 .done))))) .done)))))) (EI [] (EI [] (AI rfl (guardI hF (fun hF=>?_)))))))
   refine AI TV ?_
   obtain ⟨q5_5,hq5_5,hF⟩ := bindE hF
   refine OL (AI f62_in (callV0 (callI C62 (((rd (Ty.z T3) n.2 v16).1,((rd (Ty.z T3) n.2 v16).2).1,((rd (Ty.z T3) n.2 v16).2).2),(rd (Ty.z T6) l1 v16)) q5_5 [] false C62_holds hq5_5 rfl rfl (R3 (AI (fun h=>nomatch h) (R2 (AI TV (AI TV ?_))))))))
   obtain ⟨z7,hz7,hF⟩ := bindE hF
   refine OQ ⟨Sum.elim (fun z7a=>[(0,⟨[(1,P0 0 0),(4,O0 1),(7,O0 2),(14,.dat T5 n.2),(15,.dat T1 (List.length n.2:Int)),(16,.dat T1 v16)],[(0,.cells [(.d T6 n.1),(.d T5 n.2)]),(1,.arr 23 T6 l1),(2,.arr 3 T1 q5_5.2)],3⟩)]) (fun z7b=>[(1,⟨[(2,.raw false [N0]),(3,.dat .bool false)],[],0⟩)]) z7,?_,?_⟩
   ·have hF := hz7
    clear hz7
    unfold f35_j4 at hF
    refine OL (condN hF (fun hF=>?_) (fun hF=>?_))
    ·refine gdYF (gdYF (gdYF (condI hF (fun hF=>?_) (fun hF=>?_))))
     ·refine gdYT (gdYT (gdYT ?_))
      obtain ⟨r8,hr8,hF⟩ := bindE hF
      refine OL (AI f63_in (callV0 (callI C63 ((n.1,n.2),v16,l1) r8 [] true C63_holds hr8 rfl rfl (R4 (AI (fun _=>rfl) (R2 (AI TV (AI TV (gdYT (gdYF (condT (condF (condI hF (fun hF=>?_) (fun hF=>?_))))))))))))))
      ·refine OL ?_
       have hz := someE hF
       subst hz
       refine E4 [] (R2 (AI (AI rfl TV) TV))
      have hz := someE hF
      subst hz
      refine E4 [(0,some 0),(1,some 1),(2,some 3)] (R4 (AI (R3 TV) (R3 TV)))
     refine gdNT (gdNT (gdNT (gdNT (gdYF (condF (condF (condF ?_)))))))
     have hz := someE hF
     subst hz
     refine E4 [(0,some 0),(1,some 1),(2,some 3)] (R4 (AI (R3 TV) (R3 TV)))
    refine gdNF (gdNF (gdNF (gdNF (condT (condT (OL ?_))))))
    have hz := someE hF
    subst hz
    refine E4 [] (R2 (AI (AI rfl TV) TV))
   rcases z7 with z7a | z7b
   ·dsimp only [sumF] at hF
    refine AI (OL (OL (guardI hF (fun hF=>?_)))) TV
    refine EI ((i64.wrap (v16 + (1:Int))),(l1 ++ ([q5_5.2]))) (AI hF (E4 [(0,some 0),(1,some 4)] (R4 (AI (R2 TV) (R2 TV)))))
   dsimp only [sumF] at hF
   refine AI ?_ TV
   have hz := someE hF
   subst hz
   refine E4 [] (R2 (AI (AI rfl TV) TV))
  have hz := someE hF
  subst hz
  refine E4 [(0,some 1)] (AI rfl (AI (AI rfl TV) (AI rfl TV)))
 rcases z6 with z6a | z6b
 ·dsimp only [sumF] at hF
  refine AI ?_ TV
  have hy := someE hF
  subst hy
  refine AI rfl (E4 [(0,none)] (R2 (AI (AI rfl TV) (AI rfl TV))))
 dsimp only [sumF] at hF
 refine AI (OL ?_) TV
 have hy := someE hF
 subst hy
 refine AI rfl (E4 [(0,some 0)] (R2 (AI (AI rfl TV) (AI rfl TV))))
theorem C35_holds : C35.Holds Tryz.prog 35 := holds_of_vc tab_ok mixed (fn := Tryz.f35) (by kernel_rfl) rfl C35 (fun x y hF=>C35_vc x y hF)
theorem f35_in : InP 35 := ⟨Tryz.f35,by kernel_rfl,by kernel_rfl,by kernel_rfl⟩
def f42_l1 (d : List Int) (go : (Int×Int) → Option Int) (n:Int) (v8:Int) : Option Int :=
 bif (decide (v8 < (List.length d:Int))) then
 guardF (0 ≤ v8 ∧ v8 < (List.length d:Int)) <|
 go ((i64.wrap (n * (rd (0:Int) d v8))),(i64.wrap (v8 + (1:Int))))
 else
 some n
def f42 (d : List Int) : Option Int :=
 bindF (loopF (fun go x=>f42_l1 d go x.1 x.2) fuelN ((1:Int),(0:Int))) fun z1 =>
 some z1
def C42 : Con where
 X := List Int
 Y := Int
 e := 0
 args x := [.dat T6 x]
 hin x := []
 F x := f42 x
 ret y := [.dat T1 y]
 hout y := []
 nout := 0
theorem C42_vc (d : List Int) (y:Int) (hF : f42 d = some y) : VC Tryz.f42 C42 d y := by
 unfold f42 at hF
 refine OL (OL (OL (OL ?_)))
 obtain ⟨z1,hz1,hF⟩ := bindE hF
 refine loopI (Int×Int) Int (fun x=>⟨[(3,.dat T1 x.1),(6,.dat T6 d),(7,.dat T1 (List.length d:Int)),(8,.dat T1 x.2)],[],0⟩) (fun z=>[(2,⟨[(3,.dat T1 z)],[],0⟩)]) (loopF (fun go x=>f42_l1 d go x.1 x.2)) fuelN ((1:Int),(0:Int)) z1 (AI hz1 (AI (E4 [] (R5 (AI TV TV))) (AI (fun _ _ h=>loopZ h) (AI (fun m=>curI (fun n=>fun v8 z hF=>?_)) ?_))))
 ·have hF : f42_l1 d (loopF (fun go x=>f42_l1 d go x.1 x.2) m) n v8 = some z := hF
  unfold f42_l1 at hF
  refine OL (OL (condI hF (fun hF=>?_) (fun hF=>?_)))
  ·refine OL (OL (guardI hF (fun hF=>?_)))
   refine EI ((i64.wrap (n * (rd (0:Int) d v8))),(i64.wrap (v8 + (1:Int)))) (AI hF (E4 [] (R5 (AI TV TV))))
  have hz := someE hF
  subst hz
  refine E4 [] (R2 (AI TV TV))
 refine AI (OL ?_) TV
 have hy := someE hF
 subst hy
 refine AI rfl (E4 [] (R2 (AI TV TV)))
theorem C42_holds : C42.Holds Tryz.prog 42 := holds_of_vc tab_ok mixed (fn := Tryz.f42) (by kernel_rfl) rfl C42 (fun x y hF=>C42_vc x y hF)
theorem f42_in : InP 42 := ⟨Tryz.f42,by kernel_rfl,by kernel_rfl,by kernel_rfl⟩
def f64 (l : ByteArray×Int×Int) (in_ : List Int) : Option (List (List Int)) :=
 bif (ByteArray.toList l.1 == ByteArray.toList (ByteArray.mk #[100,101,110,115,101])) then
 bindF (f42 in_) fun q3_3 =>
 some ([[l.2.1,q3_3],[l.2.1]])
 else
 bif (ByteArray.toList l.1 == ByteArray.toList (ByteArray.mk #[99,111,110,118])) then
 guardF (0 ≤ (0:Int) ∧ (0:Int) < (List.length in_:Int)) <|
 some ([[l.2.1,(rd (0:Int) in_ (0:Int)),l.2.2]])
 else
 some ([])
def C64 : Con where
 X := (ByteArray×Int×Int)×(List Int)
 Y := List (List Int)
 e := 0
 args x := [.dat T3 x.1,.dat T6 x.2]
 hin x := []
 F x := f64 x.1 x.2
 ret y := [O0 0]
 hout y := [(0,.arr 23 T6 y)]
 nout := 1
theorem C64_vc (l : ByteArray×Int×Int) (in_ : List Int) (y : List (List Int)) (hF : f64 l in_ = some y) : VC Tryz.f64 C64 (l,in_) y := by
 unfold f64 at hF
 refine OL (OL (OL (OL (condI hF (fun hF=>?_) (fun hF=>?_)))))
 ·refine OL ?_
  obtain ⟨q3_3,hq3_3,hF⟩ := bindE hF
  refine EI (.take 0 (.take 1 (.take 2 (.take 5 (.take 6 (.alt 3 (.alt 4 (.alt 7 (.alt 8 (.take 9 .done) .done) .done) (.alt 7 (.alt 4 (.alt 8 (.take 9 .done) .done) .done) .done)) (.alt 7 (.alt 3 (.alt 4 (.alt 8 (.take 9 .done) .done) .done) .done) .done))))))) (EI [] (EI [] (AI rfl (AI (AI TV ?_) ?_))))
  ·refine OL (AI TV (OL (AI f42_in (callV0 (callI C42 in_ q3_3 [] false C42_holds hq3_3 rfl rfl (AI rfl (AI (fun h=>nomatch h) (R2 (AI TV (AI TV (AI TV (OL (AI TV (OL ?_))))))))))))))
   have hy := someE hF
   subst hy
   refine AI rfl (E4 [(0,some 3)] (AI rfl (AI (AI rfl TV) (AI rfl TV))))
  refine OL (AI f42_in (callV0 (callI C42 in_ q3_3 [] false C42_holds hq3_3 rfl rfl (AI rfl (AI (fun h=>nomatch h) (R2 (AI TV (AI TV (AI (AI TV ?_) ?_)))))))))
  ·refine OL (AI TV (OL (AI TV (OL ?_))))
   have hy := someE hF
   subst hy
   refine AI rfl (E4 [(0,some 3)] (AI rfl (AI (AI rfl TV) (AI rfl TV))))
  refine OL (AI TV (OL (AI TV (OL ?_))))
  have hy := someE hF
  subst hy
  refine AI rfl (E4 [(0,some 3)] (AI rfl (AI (AI rfl TV) (AI rfl TV))))
 refine OL (condI hF (fun hF=>?_) (fun hF=>?_))
 ·refine OL (EI (.take 0 (.take 1 (.take 2 (.take 3 (.take 4 (.take 5 (.take 6 (.alt 7 (.alt 8 (.take 9 .done) .done) .done)))))))) (EI [] (EI [] (AI rfl (guardI hF (fun hF=>?_))))))
  refine AI TV (OL (AI TV (OL ?_)))
  have hy := someE hF
  subst hy
  refine AI rfl (E4 [(0,some 2)] (AI rfl (AI (AI rfl TV) (AI rfl TV))))
 refine OL ?_
 have hy := someE hF
 subst hy
 refine AI rfl (E4 [(0,none)] (AI rfl (AI (AI rfl TV) (AI rfl TV))))
theorem C64_holds : C64.Holds Tryz.prog 64 := holds_of_vc tab_ok mixed (fn := Tryz.f64) (by kernel_rfl) rfl C64 (fun x y hF=>C64_vc x.1 x.2 y hF)
theorem f64_in : InP 64 := ⟨Tryz.f64,by kernel_rfl,by kernel_rfl,by kernel_rfl⟩
def f89_j4 (d : List Int) (v11:Int) : Option (Sum Unit Unit) :=
 bif (decide ((rd (0:Int) d v11) < (1:Int))) then
 some (Sum.inr ())
 else
 bif (decide ((rd (0:Int) d v11) > (4096:Int))) then
 some (Sum.inr ())
 else
 some (Sum.inl ())
def f89_l3 (d : List Int) (go : (Int×Int) → Option (Sum Unit Int)) (n:Int) (v11:Int) : Option (Sum Unit Int) :=
 bif (decide (v11 < (List.length d:Int))) then
 guardF (0 ≤ v11 ∧ v11 < (List.length d:Int)) <|
 bindF (f89_j4 d v11) fun z4 =>
 sumF z4 (fun z4a =>
 bif (decide ((i64.wrap (n * (rd (0:Int) d v11))) > (4096:Int))) then
 some (Sum.inl ())
 else
 go ((i64.wrap (n * (rd (0:Int) d v11))),(i64.wrap (v11 + (1:Int))))) (fun z4b =>
 some (Sum.inl ()))
 else
 some (Sum.inr n)
def f89 (d : List Int) : Option Int :=
 bif (decide ((List.length d:Int) > (4:Int))) then
 some (0:Int)
 else
 bindF (loopF (fun go x=>f89_l3 d go x.1 x.2) fuelN ((1:Int),(0:Int))) fun z3 =>
 sumF z3 (fun z3a =>
 some (0:Int)) (fun z3b =>
 some z3b)
def C89 : Con where
 X := List Int
 Y := Int
 e := 0
 args x := [.dat T6 x]
 hin x := []
 F x := f89 x
 ret y := [.dat T1 y]
 hout y := []
 nout := 0
theorem C89_vc (d : List Int) (y:Int) (hF : f89 d = some y) : VC Tryz.f89 C89 d y := by
 unfold f89 at hF
 refine OL (OL (OL (condI hF (fun hF=>?_) (fun hF=>?_))))
 ·refine OL ?_
  have hy := someE hF
  subst hy
  refine AI rfl (E4 [] (R2 (AI TV TV)))
 refine OL (OL (OL ?_))
 obtain ⟨z3,hz3,hF⟩ := bindE hF
 refine loopI (Int×Int) (Sum Unit Int) (fun x=>⟨[(3,.dat T1 x.1),(9,.dat T6 d),(10,.dat T1 (List.length d:Int)),(11,.dat T1 x.2)],[],0⟩) (fun z=>Sum.elim (fun za=>[(1,⟨[(2,D0 0)],[],0⟩)]) (fun zb=>[(2,⟨[(3,.dat T1 zb)],[],0⟩)]) z) (loopF (fun go x=>f89_l3 d go x.1 x.2)) fuelN ((1:Int),(0:Int)) z3 (AI hz3 (AI (E4 [] (R5 (AI TV TV))) (AI (fun _ _ h=>loopZ h) (AI (fun m=>curI (fun n=>fun v11 z hF=>?_)) ?_))))
 ·have hF : f89_l3 d (loopF (fun go x=>f89_l3 d go x.1 x.2) m) n v11 = some z := hF
  unfold f89_l3 at hF
  refine OL (OL (condI hF (fun hF=>?_) (fun hF=>?_)))
  ·refine OL (OL (guardI hF (fun hF=>?_)))
   obtain ⟨z4,hz4,hF⟩ := bindE hF
   refine OQ ⟨Sum.elim (fun z4a=>[(0,⟨[(3,.dat T1 n),(5,.dat T1 (rd (0:Int) d v11)),(9,.dat T6 d),(10,.dat T1 (List.length d:Int)),(11,.dat T1 v11)],[],0⟩)]) (fun z4b=>[(1,⟨[(2,D0 0)],[],0⟩)]) z4,?_,?_⟩
   ·have hF := hz4
    clear hz4
    unfold f89_j4 at hF
    refine OL (condN hF (fun hF=>?_) (fun hF=>?_))
    ·refine gdYF (condF (condI hF (fun hF=>?_) (fun hF=>?_)))
     ·refine OL ?_
      have hz := someE hF
      subst hz
      refine E4 [] (R2 (AI TV TV))
     have hz := someE hF
     subst hz
     refine E4 [] (R6 (AI TV TV))
    refine gdNF (condT (condT (OL ?_)))
    have hz := someE hF
    subst hz
    refine E4 [] (R2 (AI TV TV))
   rcases z4 with z4a | z4b
   ·dsimp only [sumF] at hF
    refine AI (OL (OL (condI hF (fun hF=>?_) (fun hF=>?_)))) TV
    ·refine OL ?_
     have hz := someE hF
     subst hz
     refine E4 [] (R2 (AI TV TV))
    refine EI ((i64.wrap (n * (rd (0:Int) d v11))),(i64.wrap (v11 + (1:Int)))) (AI hF (E4 [] (R5 (AI TV TV))))
   dsimp only [sumF] at hF
   refine AI ?_ TV
   have hz := someE hF
   subst hz
   refine E4 [] (R2 (AI TV TV))
  have hz := someE hF
  subst hz
  refine E4 [] (R2 (AI TV TV))
 rcases z3 with z3a | z3b
 ·dsimp only [sumF] at hF
  refine AI ?_ TV
  have hy := someE hF
  subst hy
  refine AI rfl (E4 [] (R2 (AI TV TV)))
 dsimp only [sumF] at hF
 refine AI (OL ?_) TV
 have hy := someE hF
 subst hy
 refine AI rfl (E4 [] (R2 (AI TV TV)))
theorem C89_holds : C89.Holds Tryz.prog 89 := holds_of_vc tab_ok mixed (fn := Tryz.f89) (by kernel_rfl) rfl C89 (fun x y hF=>C89_vc x y hF)
theorem f89_in : InP 89 := ⟨Tryz.f89,by kernel_rfl,by kernel_rfl,by kernel_rfl⟩
def f65 (d : List Int) : Option Bool :=
 bindF (f89 d) fun r1 =>
 some (decide (r1 > (0:Int)))
def C65 : Con where
 X := List Int
 Y := Bool
 e := 0
 args x := [.dat T6 x]
 hin x := []
 F x := f65 x
 ret y := [.dat .bool y]
 hout y := []
 nout := 0
theorem C65_vc (d : List Int) (y : Bool) (hF : f65 d = some y) : VC Tryz.f65 C65 d y := by
 unfold f65 at hF
 refine OL (OL ?_)
 obtain ⟨r1,hr1,hF⟩ := bindE hF
 refine OL (AI f89_in (callV0 (callI C89 d r1 [] false C89_holds hr1 rfl rfl (AI rfl (AI (fun h=>nomatch h) (R2 (AI TV (AI TV ?_))))))))
 have hy := someE hF
 subst hy
 refine AI rfl (E4 [] (R2 (AI TV TV)))
theorem C65_holds : C65.Holds Tryz.prog 65 := holds_of_vc tab_ok mixed (fn := Tryz.f65) (by kernel_rfl) rfl C65 (fun x y hF=>C65_vc x y hF)
theorem f65_in : InP 65 := ⟨Tryz.f65,by kernel_rfl,by kernel_rfl,by kernel_rfl⟩
def f36_l4 (q5_5 : List (List Int)) (go : (Int×Bool×Int) → Option (Int×Bool)) (many_2:Int) (ok_2 : Bool) (v31:Int) : Option (Int×Bool) :=
 bif (decide (v31 < (List.length q5_5:Int))) then
 guardF (0 ≤ v31 ∧ v31 < (List.length q5_5:Int)) <|
 bindF (f42 (rd (Ty.z T6) q5_5 v31)) fun r25 =>
 bif ok_2 then
 bindF (f65 (rd (Ty.z T6) q5_5 v31)) fun r26 =>
 go ((i64.wrap (many_2 + r25)),r26,(i64.wrap (v31 + (1:Int))))
 else
 go ((i64.wrap (many_2 + r25)),false,(i64.wrap (v31 + (1:Int))))
 else
 some (many_2,ok_2)
def f36_l3 (n : (List Int)×(List (ByteArray×Int×Int))) (d : List (List Int)) (go : (Int×Bool×Int) → Option (Int×Bool)) (many:Int) (ok : Bool) (v19:Int) : Option (Int×Bool) :=
 bif (decide (v19 < (List.length n.2:Int))) then
 guardF (0 ≤ v19 ∧ v19 < (List.length n.2:Int)) <|
 guardF (0 ≤ v19 ∧ v19 < (List.length d:Int)) <|
 bindF (f64 ((rd (Ty.z T3) n.2 v19).1,((rd (Ty.z T3) n.2 v19).2).1,((rd (Ty.z T3) n.2 v19).2).2) (rd (Ty.z T6) d v19)) fun q5_5 =>
 bindF (loopF (fun go x=>f36_l4 q5_5 go x.1 x.2.1 x.2.2) fuelN (many,ok,(0:Int))) fun z24 =>
 bif z24.2 then
 guardF (0 ≤ v19 ∧ v19 < (List.length d:Int)) <|
 bindF (f65 (rd (Ty.z T6) d v19)) fun r27 =>
 bif r27 then
 guardF (0 ≤ (i64.wrap (v19 + (1:Int))) ∧ (i64.wrap (v19 + (1:Int))) < (List.length d:Int)) <|
 bindF (f65 (rd (Ty.z T6) d (i64.wrap (v19 + (1:Int))))) fun r28 =>
 go (z24.1,r28,(i64.wrap (v19 + (1:Int))))
 else
 go (z24.1,false,(i64.wrap (v19 + (1:Int))))
 else
 go (z24.1,false,(i64.wrap (v19 + (1:Int))))
 else
 some (many,ok)
def f36 (n : (List Int)×(List (ByteArray×Int×Int))) (d : List (List Int)) : Option (Int×Bool) :=
 bindF (loopF (fun go x=>f36_l3 n d go x.1 x.2.1 x.2.2) fuelN ((0:Int),(decide ((List.length n.2:Int) ≤ (16:Int))),(0:Int))) fun z19 =>
 bif z19.2 then
 bindF (f65 n.1) fun r29 =>
 bif r29 then
 some (z19.1,(decide (z19.1 ≤ (4096:Int))))
 else
 some (z19.1,false)
 else
 some (z19.1,false)
def C36 : Con where
 X := ((List Int)×(List (ByteArray×Int×Int)))×(List (List Int))
 Y := Int×Bool
 e := 0
 args x := [.dat T4 x.1,.dat T7 x.2]
 hin x := []
 F x := f36 x.1 x.2
 ret y := [.dat T1 y.1,.dat .bool y.2]
 hout y := []
 nout := 0
theorem C36_vc (n : (List Int)×(List (ByteArray×Int×Int))) (d : List (List Int)) (y : Int×Bool) (hF : f36 n d = some y) : VC Tryz.f36 C36 (n,d) y := by
 unfold f36 at hF
 refine OL (OL (EI (.take 0 (.take 1 (.take 2 (.take 3 (.take 4 (.take 5 .done)))))) (EI [] (EI [] (AI rfl (OL (OL ?_)))))))
 obtain ⟨z19,hz19,hF⟩ := bindE hF
 refine loopI (Int×Bool×Int) (Int×Bool) (fun x=>⟨[(1,.dat T7 d),(2,P0 0 0),(6,.dat T1 x.1),(7,.dat .bool x.2.1),(17,.dat T5 n.2),(18,.dat T1 (List.length n.2:Int)),(19,.dat T1 x.2.2)],[(0,.cells [(.d T6 n.1),(.d T5 n.2)])],1⟩) (fun z=>[(2,⟨[(2,P0 0 0),(6,.dat T1 z.1),(7,.dat .bool z.2)],[(0,.cells [(.d T6 n.1),(.d T5 n.2)])],1⟩)]) (loopF (fun go x=>f36_l3 n d go x.1 x.2.1 x.2.2)) fuelN ((0:Int),(decide ((List.length n.2:Int) ≤ (16:Int))),(0:Int)) z19 (AI hz19 (AI (E4 [(0,some 0)] (R7 (AI (AI rfl TV) (AI rfl TV)))) (AI (fun _ _ h=>loopZ h) (AI (fun m=>curI (fun many=>curI (fun ok=>fun v19 z hF=>?_))) ?_))))
 ·have hF : f36_l3 n d (loopF (fun go x=>f36_l3 n d go x.1 x.2.1 x.2.2) m) many ok v19 = some z := hF
  unfold f36_l3 at hF
  refine OL (OL (condI hF (fun hF=>?_) (fun hF=>?_)))
  ·refine OL (OL (guardI hF (fun hF=>?_)))
   refine OL (OL (OL (EI (.take 0 (.take 1 (.take 2 (.take 3 (.take 4 (.take 7 (.alt 5 (.take 6 .done) .done))))))) (EI [] (EI [] (AI rfl (guardI hF (fun hF=>?_))))))))
   refine AI TV ?_
   obtain ⟨q5_5,hq5_5,hF⟩ := bindE hF
   refine OL (AI f64_in (callV0 (callI C64 (((rd (Ty.z T3) n.2 v19).1,((rd (Ty.z T3) n.2 v19).2).1,((rd (Ty.z T3) n.2 v19).2).2),(rd (Ty.z T6) d v19)) q5_5 [] false C64_holds hq5_5 rfl rfl (R3 (AI (fun h=>nomatch h) (R2 (AI TV (AI TV ?_))))))))
   obtain ⟨z24,hz24,hF⟩ := bindE hF
   refine loopI (Int×Bool×Int) (Int×Bool) (fun x=>⟨[(1,.dat T7 d),(2,P0 0 0),(6,.dat T1 x.1),(7,.dat .bool x.2.1),(8,.dat T1 v19),(17,.dat T5 n.2),(18,.dat T1 (List.length n.2:Int)),(19,.dat T1 v19),(29,O0 1),(30,.dat T1 (List.length q5_5:Int)),(31,.dat T1 x.2.2)],[(0,.cells [(.d T6 n.1),(.d T5 n.2)]),(1,.arr 23 T6 q5_5)],2⟩) (fun z=>[(4,⟨[(1,.dat T7 d),(2,P0 0 0),(6,.dat T1 z.1),(7,.dat .bool z.2),(8,.dat T1 v19),(17,.dat T5 n.2),(18,.dat T1 (List.length n.2:Int)),(19,.dat T1 v19)],[(0,.cells [(.d T6 n.1),(.d T5 n.2)])],1⟩)]) (loopF (fun go x=>f36_l4 q5_5 go x.1 x.2.1 x.2.2)) fuelN (many,ok,(0:Int)) z24 (AI hz24 (AI (E4 [(0,some 0),(1,some 2)] (R10 (AI (R2 TV) (R2 TV)))) (AI (fun _ _ h=>loopZ h) (AI (fun m=>curI (fun many_2=>curI (fun ok_2=>fun v31 z hF=>?_))) ?_))))
   ·have hF : f36_l4 q5_5 (loopF (fun go x=>f36_l4 q5_5 go x.1 x.2.1 x.2.2) m) many_2 ok_2 v31 = some z := hF
    unfold f36_l4 at hF
    refine OL (OL (condI hF (fun hF=>?_) (fun hF=>?_)))
    ·refine OL (OL (guardI hF (fun hF=>?_)))
     refine OL ?_
     obtain ⟨r25,hr25,hF⟩ := bindE hF
     refine OL (AI f42_in (callV0 (callI C42 (rd (Ty.z T6) q5_5 v31) r25 [] false C42_holds hr25 rfl rfl (AI rfl (AI (fun h=>nomatch h) (R2 (AI TV (AI TV (condI hF (fun hF=>?_) (fun hF=>?_))))))))))
     ·refine gdYT ?_
      obtain ⟨r26,hr26,hF⟩ := bindE hF
      refine OL (AI f65_in (callV0 (callI C65 (rd (Ty.z T6) q5_5 v31) r26 [] false C65_holds hr26 rfl rfl (AI rfl (AI (fun h=>nomatch h) (R2 (AI TV (AI TV (condT (EI ((i64.wrap (many_2 + r25)),r26,(i64.wrap (v31 + (1:Int)))) (AI hF (E4 [(0,some 0),(1,some 1)] (R10 (AI (R2 TV) (R2 TV)))))))))))))))
     refine gdNT (condF (EI ((i64.wrap (many_2 + r25)),false,(i64.wrap (v31 + (1:Int)))) (AI hF (E4 [(0,some 0),(1,some 1)] (R10 (AI (R2 TV) (R2 TV)))))))
    have hz := someE hF
    subst hz
    refine E4 [(0,some 0)] (R8 (AI (AI rfl TV) (AI rfl TV)))
   refine AI (condI hF (fun hF=>?_) (fun hF=>?_)) TV
   ·refine gdYT (gdYT (guardI hF (fun hF=>?_)))
    refine gdYT (gdYT ?_)
    obtain ⟨r27,hr27,hF⟩ := bindE hF
    refine OL (AI f65_in (callV0 (callI C65 (rd (Ty.z T6) d v19) r27 [] false C65_holds hr27 rfl rfl (AI rfl (AI (fun h=>nomatch h) (R2 (AI TV (AI TV (condT (condI hF (fun hF=>?_) (fun hF=>?_)))))))))))
    ·refine gdYT (gdYT (gdYT (guardI hF (fun hF=>?_))))
     refine gdYT (gdYT ?_)
     obtain ⟨r28,hr28,hF⟩ := bindE hF
     refine OL (AI f65_in (callV0 (callI C65 (rd (Ty.z T6) d (i64.wrap (v19 + (1:Int)))) r28 [] false C65_holds hr28 rfl rfl (AI rfl (AI (fun h=>nomatch h) (R2 (AI TV (AI TV (condT (EI (z24.1,r28,(i64.wrap (v19 + (1:Int)))) (AI hF (E4 [(0,some 0)] (R7 (AI (AI rfl TV) (AI rfl TV)))))))))))))))
    refine gdNT (gdNT (gdNT (gdNT (gdNT (condF (EI (z24.1,false,(i64.wrap (v19 + (1:Int)))) (AI hF (E4 [(0,some 0)] (R7 (AI (AI rfl TV) (AI rfl TV)))))))))))
   refine gdNT (gdNT (gdNT (gdNT (condF (gdNT (gdNT (gdNT (gdNT (gdNT (gdNT (condF (EI (z24.1,false,(i64.wrap (v19 + (1:Int)))) (AI hF (E4 [(0,some 0)] (R7 (AI (AI rfl TV) (AI rfl TV)))))))))))))))))
  have hz := someE hF
  subst hz
  refine E4 [(0,some 0)] (R3 (AI (AI rfl TV) (AI rfl TV)))
 refine AI (OL (condI hF (fun hF=>?_) (fun hF=>?_))) TV
 ·refine gdYT (gdYT ?_)
  obtain ⟨r29,hr29,hF⟩ := bindE hF
  refine OL (AI f65_in (callV0 (callI C65 n.1 r29 [] false C65_holds hr29 rfl rfl (AI rfl (AI (fun h=>nomatch h) (R2 (AI TV (AI TV (condT (condI hF (fun hF=>?_) (fun hF=>?_)))))))))))
  ·refine gdYT (condT ?_)
   have hy := someE hF
   subst hy
   refine AI rfl (E4 [] (R3 (AI TV TV)))
  refine gdNT (condF ?_)
  have hy := someE hF
  subst hy
  refine AI rfl (E4 [] (R3 (AI TV TV)))
 refine gdNT (gdNT (condF (gdNT (gdNT (condF ?_)))))
 have hy := someE hF
 subst hy
 refine AI rfl (E4 [] (R3 (AI TV TV)))
theorem C36_holds : C36.Holds Tryz.prog 36 := holds_of_vc tab_ok mixed (fn := Tryz.f36) (by kernel_rfl) rfl C36 (fun x y hF=>C36_vc x.1 x.2 y hF)
theorem f36_in : InP 36 := ⟨Tryz.f36,by kernel_rfl,by kernel_rfl,by kernel_rfl⟩
def f11 (n : (List Int)×(List (ByteArray×Int×Int))) : Option (Int×(List (List Int))) :=
 bindF (f34 (n.1,n.2)) fun r1 =>
 bif (!r1) then
 some ((1:Int),[])
 else
 bindF (f35 (n.1,n.2)) fun r2 =>
 bif (!r2.1) then
 some ((4:Int),[])
 else
 bindF (f36 (n.1,n.2) r2.2) fun r3 =>
 bif (!r3.2) then
 some ((2:Int),[])
 else
 some ((0:Int),r2.2)
def C11 : Con where
 X := (List Int)×(List (ByteArray×Int×Int))
 Y := Int×(List (List Int))
 e := 0
 args x := [.dat T4 x]
 hin x := []
 F x := f11 x
 ret y := [O0 0,.dat T1 y.1]
 hout y := [(0,.arr 23 T6 y.2)]
 nout := 1
theorem C11_vc (n : (List Int)×(List (ByteArray×Int×Int))) (y : Int×(List (List Int))) (hF : f11 n = some y) : VC Tryz.f11 C11 n y := by
 unfold f11 at hF
 refine OL (OL (OL ?_))
 obtain ⟨r1,hr1,hF⟩ := bindE hF
 refine OL (AI f34_in (callV0 (callI C34 (n.1,n.2) r1 [] false C34_holds hr1 rfl rfl (R2 (AI (fun h=>nomatch h) (R2 (AI TV (AI TV (condI hF (fun hF=>?_) (fun hF=>?_))))))))))
 ·refine OL ?_
  have hy := someE hF
  subst hy
  refine AI rfl (E4 [(0,none)] (R2 (AI (AI rfl TV) (AI rfl TV))))
 refine OL ?_
 obtain ⟨r2,hr2,hF⟩ := bindE hF
 refine OL (AI f35_in (callV0 (callI C35 (n.1,n.2) r2 [] false C35_holds hr2 rfl rfl (R2 (AI (fun h=>nomatch h) (R2 (AI TV (AI TV (OL (OL (condI hF (fun hF=>?_) (fun hF=>?_))))))))))))
 ·refine OL ?_
  have hy := someE hF
  subst hy
  refine AI rfl (E4 [(0,none)] (R2 (AI (AI rfl TV) (AI rfl TV))))
 refine OL (OL ?_)
 obtain ⟨r3,hr3,hF⟩ := bindE hF
 refine OL (AI f36_in (callV0 (callI C36 ((n.1,n.2),r2.2) r3 [] true C36_holds hr3 rfl rfl (R3 (AI (fun _=>rfl) (R2 (AI TV (AI TV (OL (condI hF (fun hF=>?_) (fun hF=>?_)))))))))))
 ·refine OL ?_
  have hy := someE hF
  subst hy
  refine AI rfl (E4 [(0,none)] (R2 (AI (AI rfl TV) (AI rfl TV))))
 refine OL ?_
 have hy := someE hF
 subst hy
 refine AI rfl (E4 [(0,some 1)] (R2 (AI (AI rfl TV) (AI rfl TV))))
theorem C11_holds : C11.Holds Tryz.prog 11 := holds_of_vc tab_ok mixed (fn := Tryz.f11) (by kernel_rfl) rfl C11 (fun x y hF=>C11_vc x y hF)
theorem f11_in : InP 11 := ⟨Tryz.f11,by kernel_rfl,by kernel_rfl,by kernel_rfl⟩
def f10 (text : ByteArray) : Option (((List Int)×(List (ByteArray×Int×Int)))×Int) :=
 bif (decide ((ByteArray.size text:Int) > (16384:Int))) then
 some (([],[]),(2:Int))
 else
 bindF (f31_32 text) fun r1 =>
 bindF (f33 r1) fun r2 =>
 bif (!r2.1) then
 some (([],[]),(7:Int))
 else
 bindF (f11 (r2.2.1,r2.2.2)) fun r3 =>
 bif (r3.1 != (0:Int)) then
 some (([],[]),r3.1)
 else
 some ((r2.2.1,r2.2.2),(0:Int))
def C10 : Con where
 X := ByteArray
 Y := ((List Int)×(List (ByteArray×Int×Int)))×Int
 e := 0
 args x := [.dat .str x]
 hin x := []
 F x := f10 x
 ret y := [.dat T4 y.1,.dat T1 y.2]
 hout y := []
 nout := 0
theorem C10_vc (text : ByteArray) (y : ((List Int)×(List (ByteArray×Int×Int)))×Int) (hF : f10 text = some y) : VC Tryz.f10 C10 text y := by
 unfold f10 at hF
 refine OL (OL (OL (condI hF (fun hF=>?_) (fun hF=>?_))))
 ·refine OL (OL ?_)
  have hy := someE hF
  subst hy
  refine AI rfl (E4 [] (R4 (AI TV TV)))
 refine OL ?_
 obtain ⟨r1,hr1,hF⟩ := bindE hF
 refine OL (AI f31_32_in (callV0 (callI C31_32 text r1 [] false C31_32_holds hr1 rfl rfl (AI rfl (AI (fun h=>nomatch h) (R2 (AI (AI rfl TV) (AI TV (OL ?_)))))))))
 obtain ⟨r2,hr2,hF⟩ := bindE hF
 refine OL (AI f33_in (callV0 (callI C33 r1 r2 [] true C33_holds hr2 rfl rfl (AI rfl (AI (fun _=>rfl) (R2 (AI TV (AI TV (OL (OL (OL (condI hF (fun hF=>?_) (fun hF=>?_)))))))))))))
 ·refine OL (OL ?_)
  have hy := someE hF
  subst hy
  refine AI rfl (E4 [] (R4 (AI TV TV)))
 refine OL (OL ?_)
 obtain ⟨r3,hr3,hF⟩ := bindE hF
 refine OL (AI f11_in (callV0 (callI C11 (r2.2.1,r2.2.2) r3 [] false C11_holds hr3 rfl rfl (R2 (AI (fun h=>nomatch h) (R2 (AI TV (AI TV (OL (condI hF (fun hF=>?_) (fun hF=>?_)))))))))))
 ·refine OL (OL ?_)
  have hy := someE hF
  subst hy
  refine AI rfl (E4 [] (R4 (AI TV TV)))
 refine OL (OL ?_)
 have hy := someE hF
 subst hy
 refine AI rfl (E4 [] (R4 (AI TV TV)))
theorem C10_holds : C10.Holds Tryz.prog 10 := holds_of_vc tab_ok mixed (fn := Tryz.f10) (by kernel_rfl) rfl C10 (fun x y hF=>C10_vc x y hF)
theorem f10_in : InP 10 := ⟨Tryz.f10,by kernel_rfl,by kernel_rfl,by kernel_rfl⟩
def f12 (n : (List Int)×(List (ByteArray×Int×Int))) : Option (Int×Int) :=
 bindF (f11 (n.1,n.2)) fun r1 =>
 bif (r1.1 != (0:Int)) then
 some ((0:Int),r1.1)
 else
 bindF (f36 (n.1,n.2) r1.2) fun r2 =>
 some (r2.1,(0:Int))
def C12 : Con where
 X := (List Int)×(List (ByteArray×Int×Int))
 Y := Int×Int
 e := 0
 args x := [.dat T4 x]
 hin x := []
 F x := f12 x
 ret y := [.dat T1 y.1,.dat T1 y.2]
 hout y := []
 nout := 0
theorem C12_vc (n : (List Int)×(List (ByteArray×Int×Int))) (y : Int×Int) (hF : f12 n = some y) : VC Tryz.f12 C12 n y := by
 unfold f12 at hF
 refine OL (OL ?_)
 obtain ⟨r1,hr1,hF⟩ := bindE hF
 refine OL (AI f11_in (callV0 (callI C11 (n.1,n.2) r1 [] false C11_holds hr1 rfl rfl (R2 (AI (fun h=>nomatch h) (R2 (AI TV (AI TV (OL (OL (condI hF (fun hF=>?_) (fun hF=>?_))))))))))))
 ·refine OL ?_
  have hy := someE hF
  subst hy
  refine AI rfl (E4 [] (R3 (AI TV TV)))
 refine OL ?_
 obtain ⟨r2,hr2,hF⟩ := bindE hF
 refine OL (AI f36_in (callV0 (callI C36 ((n.1,n.2),r1.2) r2 [] true C36_holds hr2 rfl rfl (R3 (AI (fun _=>rfl) (R2 (AI TV (AI TV (OL ?_)))))))))
 have hy := someE hF
 subst hy
 refine AI rfl (E4 [] (R3 (AI TV TV)))
theorem C12_holds : C12.Holds Tryz.prog 12 := holds_of_vc tab_ok mixed (fn := Tryz.f12) (by kernel_rfl) rfl C12 (fun x y hF=>C12_vc x y hF)
theorem f12_in : InP 12 := ⟨Tryz.f12,by kernel_rfl,by kernel_rfl,by kernel_rfl⟩
def f20 : Option Unit :=
 some ()
def C20 : Con where
 X := Unit
 Y := Unit
 e := 0
 args x := []
 hin x := []
 F x := f20
 ret y := [P0 0 0]
 hout y := [(0,.cells [(.osl 1)]),(1,.arr 61 T8 ([]))]
 nout := 2
theorem C20_vc (y : Unit) (hF : f20 = some y) : VC Tryz.f20 C20 () y := by
 unfold f20 at hF
 refine OL (OL ?_)
 have hy := someE hF
 subst hy
 refine AI rfl (E4 [(0,some 0),(1,none)] (AI rfl (AI (AI rfl TV) (R2 TV))))
theorem C20_holds : C20.Holds Tryz.prog 20 := holds_of_vc tab_ok mixed (fn := Tryz.f20) (by kernel_rfl) rfl C20 (fun x y hF=>C20_vc y hF)
theorem f20_in : InP 20 := ⟨Tryz.f20,by kernel_rfl,by kernel_rfl,by kernel_rfl⟩
def f25 (t_l : List (Int×Int×Int×Int×(List Int)×(List Int))) : Option (Int×(List (Int×Int×Int×Int×(List Int)×(List Int)))) :=
 some ((List.length t_l:Int),t_l)
def C25 : Con where
 X := List (Int×Int×Int×Int×(List Int)×(List Int))
 Y := Int×(List (Int×Int×Int×Int×(List Int)×(List Int)))
 e := 2
 args x := [P0 0 0]
 hin x := [(0,.cells [(.osl 1)]),(1,.arr 61 T8 x)]
 F x := f25 x
 ret y := [.dat T1 y.1]
 hout y := [(0,.cells [(.osl 1)]),(1,.arr 61 T8 y.2)]
 nout := 2
theorem C25_vc (t_l : List (Int×Int×Int×Int×(List Int)×(List Int))) (y : Int×(List (Int×Int×Int×Int×(List Int)×(List Int)))) (hF : f25 t_l = some y) : vc Tryz.prog tab Tryz.f25.ntmps 2 (match Tryz.f25.body with | some c=>c | none=>.skip) (retK tab C25 Tryz.f25.results.toList y) (C25.shIn t_l).st := by
 unfold f25 at hF
 refine OL (OL ?_)
 have hy := someE hF
 subst hy
 refine AI rfl (E4 [(0,some 0),(1,some 1)] (R2 (AI TV (R2 TV))))
theorem C25_holds : C25.Holds Tryz.prog 25 := holds_of_vc tab_ok mixed (fn := Tryz.f25) (by kernel_rfl) rfl C25 (fun x y hF=>C25_vc x y hF)
theorem f25_in : InP 25 := ⟨Tryz.f25,by kernel_rfl,by kernel_rfl,by kernel_rfl⟩
def f117 (d : List Int) : Option Int :=
 bindF (f89 d) fun r1 =>
 some r1
def C117 : Con where
 X := List Int
 Y := Int
 e := 0
 args x := [.dat T6 x]
 hin x := []
 F x := f117 x
 ret y := [.dat T1 y]
 hout y := []
 nout := 0
theorem C117_vc (d : List Int) (y:Int) (hF : f117 d = some y) : VC Tryz.f117 C117 d y := by
 unfold f117 at hF
 refine OL (OL ?_)
 obtain ⟨r1,hr1,hF⟩ := bindE hF
 refine OL (AI f89_in (callV0 (callI C89 d r1 [] false C89_holds hr1 rfl rfl (AI rfl (AI (fun h=>nomatch h) (R2 (AI TV (AI TV ?_))))))))
 have hy := someE hF
 subst hy
 refine AI rfl (E4 [] (R2 (AI TV TV)))
theorem C117_holds : C117.Holds Tryz.prog 117 := holds_of_vc tab_ok mixed (fn := Tryz.f117) (by kernel_rfl) rfl C117 (fun x y hF=>C117_vc x y hF)
theorem f117_in : InP 117 := ⟨Tryz.f117,by kernel_rfl,by kernel_rfl,by kernel_rfl⟩
def f91 (t : (List Int)×(List Int)) : Option Bool :=
 bindF (f65 t.1) fun q1_2 =>
 bif q1_2 then
 bindF (f117 t.1) fun q1_9 =>
 some ((List.length t.2:Int) == q1_9)
 else
 some false
def C91 : Con where
 X := (List Int)×(List Int)
 Y := Bool
 e := 0
 args x := [.dat T9 x]
 hin x := []
 F x := f91 x
 ret y := [.dat .bool y]
 hout y := []
 nout := 0
theorem C91_vc (t : (List Int)×(List Int)) (y : Bool) (hF : f91 t = some y) : VC Tryz.f91 C91 t y := by
 unfold f91 at hF
 refine OL (OL (EI (.take 0 (.take 1 (.alt 2 (.take 3 (.take 4 (.take 5 (.take 6 (.take 7 (.take 8 (.alt 9 (.take 10 (.take 11 (.take 12 .done))) .done))))))) .done))) (EI [] (EI [] (AI rfl (AI TV ?_))))))
 obtain ⟨q1_2,hq1_2,hF⟩ := bindE hF
 refine OL (AI f65_in (callV0 (callI C65 t.1 q1_2 [] false C65_holds hq1_2 rfl rfl (AI rfl (AI (fun h=>nomatch h) (R2 (AI TV (AI TV (condI hF (fun hF=>?_) (fun hF=>?_))))))))))
 ·refine gdYT (gdYT (gdYT (gdYT (AI TV (gdYT ?_)))))
  obtain ⟨q1_9,hq1_9,hF⟩ := bindE hF
  refine OL (AI f117_in (callV0 (callI C117 t.1 q1_9 [] false C117_holds hq1_9 rfl rfl (AI rfl (AI (fun h=>nomatch h) (R2 (AI TV (AI TV (gdYT (condT ?_))))))))))
  have hy := someE hF
  subst hy
  refine AI rfl (E4 [] (R2 (AI TV TV)))
 refine gdNT (gdNT (gdNT (gdNT (AI TV (gdNT (gdNT (condF ?_)))))))
 have hy := someE hF
 subst hy
 refine AI rfl (E4 [] (R2 (AI TV TV)))
theorem C91_holds : C91.Holds Tryz.prog 91 := holds_of_vc tab_ok mixed (fn := Tryz.f91) (by kernel_rfl) rfl C91 (fun x y hF=>C91_vc x y hF)
theorem f91_in : InP 91 := ⟨Tryz.f91,by kernel_rfl,by kernel_rfl,by kernel_rfl⟩
def f75 (s : List Int) : Option (List Int) :=
 nilF s
 (some ([]))
 (guardF ((List.length ([] : List Int) + List.length s) * 8 ≤ 140737488355328) <|
 some (([] : List Int) ++ s))
def C75 : Con where
 X := List Int
 Y := List Int
 e := 0
 args x := [.dat T6 x]
 hin x := []
 F x := f75 x
 ret y := [O0 0]
 hout y := [(0,.arr 57 T1 y)]
 nout := 1
theorem C75_vc (s : List Int) (y : List Int) (hF : f75 s = some y) : VC Tryz.f75 C75 s y := by
 unfold f75 at hF
 refine OL (OL (OL (nilI hF (fun hF=>?_) (fun hF=>?_))))
 ·refine condT (OL ?_)
  have hy := someE hF
  subst hy
  refine AI rfl (E4 [(0,none)] (AI rfl (AI (AI rfl TV) (AI rfl TV))))
 refine condF (OL (OL (OL (guardI hF (fun hF=>?_)))))
 have hy := someE hF
 subst hy
 refine AI rfl (E4 [(0,some 1)] (AI rfl (AI (AI rfl TV) (AI rfl TV))))
theorem C75_holds : C75.Holds Tryz.prog 75 := holds_of_vc tab_ok mixed (fn := Tryz.f75) (by kernel_rfl) rfl C75 (fun x y hF=>C75_vc x y hF)
theorem f75_in : InP 75 := ⟨Tryz.f75,by kernel_rfl,by kernel_rfl,by kernel_rfl⟩
def f49 (t : (List Int)×(List Int)) : Option ((List Int)×(List Int)) :=
 bindF (f61 t.1) fun q1_2 =>
 bindF (f75 t.2) fun q1_5 =>
 some (q1_2,q1_5)
def C49 : Con where
 X := (List Int)×(List Int)
 Y := (List Int)×(List Int)
 e := 0
 args x := [.dat T9 x]
 hin x := []
 F x := f49 x
 ret y := [.raw true [(.osl 0),(.osl 1)]]
 hout y := [(0,.arr 3 T1 y.1),(1,.arr 57 T1 y.2)]
 nout := 2
theorem C49_vc (t : (List Int)×(List Int)) (y : (List Int)×(List Int)) (hF : f49 t = some y) : VC Tryz.f49 C49 t y := by
 unfold f49 at hF
 refine OL (OL (EI (.take 0 (.take 1 (.take 3 (.take 4 (.alt 2 (.alt 5 (.take 6 (.alt 7 .done .done)) .done) .done))))) (EI [] (EI [] (AI rfl (AI TV ?_))))))
 obtain ⟨q1_2,hq1_2,hF⟩ := bindE hF
 refine OL (AI f61_in (callV0 (callI C61 t.1 q1_2 [] false C61_holds hq1_2 rfl rfl (AI rfl (AI (fun h=>nomatch h) (R2 (AI TV (AI TV (AI TV ?_)))))))))
 obtain ⟨q1_5,hq1_5,hF⟩ := bindE hF
 refine OL (AI f75_in (callV0 (callI C75 t.2 q1_5 [] false C75_holds hq1_5 rfl rfl (AI rfl (AI (fun h=>nomatch h) (R2 (AI TV (AI TV (AI TV (OL ?_))))))))))
 have hy := someE hF
 subst hy
 refine AI rfl (E4 [(0,some 2),(1,some 3)] (AI rfl (AI (AI rfl TV) (R2 TV))))
theorem C49_holds : C49.Holds Tryz.prog 49 := holds_of_vc tab_ok mixed (fn := Tryz.f49) (by kernel_rfl) rfl C49 (fun x y hF=>C49_vc x y hF)
theorem f49_in : InP 49 := ⟨Tryz.f49,by kernel_rfl,by kernel_rfl,by kernel_rfl⟩
def f92 (t_l : List (Int×Int×Int×Int×(List Int)×(List Int))) (n : Int×Int×Int×Int×(List Int)×(List Int)) : Option (Int×(List (Int×Int×Int×Int×(List Int)×(List Int)))) :=
 guardF ((List.length t_l + List.length ([(n.1,n.2.1,n.2.2.1,n.2.2.2.1,n.2.2.2.2.1,n.2.2.2.2.2)])) * 80 ≤ 140737488355328) <|
 some ((i64.wrap ((List.length (t_l ++ ([(n.1,n.2.1,n.2.2.1,n.2.2.2.1,n.2.2.2.2.1,n.2.2.2.2.2)])):Int) - (1:Int))),(t_l ++ ([(n.1,n.2.1,n.2.2.1,n.2.2.2.1,n.2.2.2.2.1,n.2.2.2.2.2)])))
def C92 : Con where
 X := (List (Int×Int×Int×Int×(List Int)×(List Int)))×(Int×Int×Int×Int×(List Int)×(List Int))
 Y := Int×(List (Int×Int×Int×Int×(List Int)×(List Int)))
 e := 2
 args x := [P0 0 0,.dat T8 x.2]
 hin x := [(0,.cells [(.osl 1)]),(1,.arr 61 T8 x.1)]
 F x := f92 x.1 x.2
 ret y := [.dat T1 y.1,D0 0]
 hout y := [(0,.cells [(.osl 2)]),(2,.arr 61 T8 y.2)]
 nout := 3
theorem C92_vc (t_l : List (Int×Int×Int×Int×(List Int)×(List Int))) (n : Int×Int×Int×Int×(List Int)×(List Int)) (y : Int×(List (Int×Int×Int×Int×(List Int)×(List Int)))) (hF : f92 t_l n = some y) : vc Tryz.prog tab Tryz.f92.ntmps 2 (match Tryz.f92.body with | some c=>c | none=>.skip) (retK tab C92 Tryz.f92.results.toList y) (C92.shIn (t_l,n)).st := by
 unfold f92 at hF
 refine OL (OL (EI (.take 0 (.take 1 (.take 2 (.take 3 (.take 4 (.take 5 (.alt 6 (.alt 7 (.take 8 (.take 9 (.alt 10 .done .done))) .done) .done))))))) (EI [(10,[0])] (EI [] (AI rfl (AI TV (OL (AI TV (OL (guardI hF (fun hF=>?_)))))))))))
 refine AI TV (OL (OL ?_))
 have hy := someE hF
 subst hy
 refine AI rfl (E4 [(0,some 0),(2,some 4)] (R3 (AI TV (R2 TV))))
theorem C92_holds : C92.Holds Tryz.prog 92 := holds_of_vc tab_ok mixed (fn := Tryz.f92) (by kernel_rfl) rfl C92 (fun x y hF=>C92_vc x.1 x.2 y hF)
theorem f92_in : InP 92 := ⟨Tryz.f92,by kernel_rfl,by kernel_rfl,by kernel_rfl⟩
def f69 (t_l : List (Int×Int×Int×Int×(List Int)×(List Int))) (x_ : (List Int)×(List Int)) : Option (Int×Int×(List (Int×Int×Int×Int×(List Int)×(List Int)))) :=
 bif (decide ((List.length t_l:Int) ≥ (512:Int))) then
 some ((0:Int),(2:Int),t_l)
 else
 bindF (f91 (x_.1,x_.2)) fun r1 =>
 bif (!r1) then
 some ((0:Int),(1:Int),t_l)
 else
 bindF (f49 (x_.1,x_.2)) fun r2 =>
 bindF (f92 t_l ((1:Int),(-1:Int),(-1:Int),(0:Int),r2.1,r2.2)) fun r3 =>
 some (r3.1,(0:Int),r3.2)
def C69 : Con where
 X := (List (Int×Int×Int×Int×(List Int)×(List Int)))×((List Int)×(List Int))
 Y := Int×Int×(List (Int×Int×Int×Int×(List Int)×(List Int)))
 e := 2
 args x := [P0 0 0,.dat T9 x.2]
 hin x := [(0,.cells [(.osl 1)]),(1,.arr 61 T8 x.1)]
 F x := f69 x.1 x.2
 ret y := [.dat T1 y.1,.dat T1 y.2.1]
 hout y := [(0,.cells [(.osl 2)]),(2,.arr 61 T8 y.2.2)]
 nout := 3
theorem C69_vc (t_l : List (Int×Int×Int×Int×(List Int)×(List Int))) (x_ : (List Int)×(List Int)) (y : Int×Int×(List (Int×Int×Int×Int×(List Int)×(List Int)))) (hF : f69 t_l x_ = some y) : vc Tryz.prog tab Tryz.f69.ntmps 2 (match Tryz.f69.body with | some c=>c | none=>.skip) (retK tab C69 Tryz.f69.results.toList y) (C69.shIn (t_l,x_)).st := by
 unfold f69 at hF
 refine OL (OL (OL (condI hF (fun hF=>?_) (fun hF=>?_))))
 ·refine OL ?_
  have hy := someE hF
  subst hy
  refine AI rfl (E4 [(0,some 0),(2,some 1)] (R3 (AI TV (R2 TV))))
 refine OL ?_
 obtain ⟨r1,hr1,hF⟩ := bindE hF
 refine OL (AI f91_in (callV0 (callI C91 (x_.1,x_.2) r1 [] false C91_holds hr1 rfl rfl (R2 (AI (fun h=>nomatch h) (R2 (AI TV (AI TV (condI hF (fun hF=>?_) (fun hF=>?_))))))))))
 ·refine OL ?_
  have hy := someE hF
  subst hy
  refine AI rfl (E4 [(0,some 0),(2,some 1)] (R3 (AI TV (R2 TV))))
 refine OL ?_
 obtain ⟨r2,hr2,hF⟩ := bindE hF
 refine OL (AI f49_in (callV0 (callI C49 (x_.1,x_.2) r2 [] false C49_holds hr2 rfl rfl (R2 (AI (fun h=>nomatch h) (R2 (AI TV (AI TV ?_))))))))
 obtain ⟨r3,hr3,hF⟩ := bindE hF
 have hr3 : C92.F (t_l,((1:Int),(-1:Int),(-1:Int),(0:Int),r2.1,r2.2)) = some r3 := hr3
 refine OL (AI f92_in (callV0 (callI C92 _ r3 [(0,some 0),(1,some 1)] false C92_holds hr3 rfl rfl (R2 (AI (fun h=>nomatch h) (R2 (AI (AI rfl TV) (AI (R2 TV) ?_))))))))
 have hy := someE hF
 subst hy
 refine AI rfl (E4 [(0,some 0),(2,some 7)] (R3 (AI TV (R2 TV))))
theorem C69_holds : C69.Holds Tryz.prog 69 := holds_of_vc tab_ok mixed (fn := Tryz.f69) (by kernel_rfl) rfl C69 (fun x y hF=>C69_vc x.1 x.2 y hF)
theorem f69_in : InP 69 := ⟨Tryz.f69,by kernel_rfl,by kernel_rfl,by kernel_rfl⟩
def f43 (r_t_l : List (Int×Int×Int×Int×(List Int)×(List Int))) (r_e:Int) (r_p : List Int) (r_leafs : List Int) (d : List Int) (v : List Int) : Option (Int×Int×(List Int)×(List Int)×(List (Int×Int×Int×Int×(List Int)×(List Int)))) :=
 bif (r_e != (0:Int)) then
 some ((0:Int),r_e,r_p,r_leafs,r_t_l)
 else
 bindF (f69 r_t_l (d,v)) fun r1 =>
 some (r1.1,r1.2.1,r_p,r_leafs,r1.2.2)
def C43 : Con where
 X := (List (Int×Int×Int×Int×(List Int)×(List Int)))×Int×(List Int)×(List Int)×(List Int)×(List Int)
 Y := Int×Int×(List Int)×(List Int)×(List (Int×Int×Int×Int×(List Int)×(List Int)))
 e := 4
 args x := [P0 0 0,.dat T6 x.2.2.2.2.1,.dat T6 x.2.2.2.2.2]
 hin x := [(0,.cells [(.ptr 1 0),(.d T1 x.2.1),(.d T6 x.2.2.1),(.osl 3)]),(1,.cells [(.osl 2)]),(2,.arr 61 T8 x.1),(3,.arr 3 T1 x.2.2.2.1)]
 F x := f43 x.1 x.2.1 x.2.2.1 x.2.2.2.1 x.2.2.2.2.1 x.2.2.2.2.2
 ret y := [.dat T1 y.1]
 hout y := [(0,.cells [(.ptr 1 0),(.d T1 y.2.1),(.d T6 y.2.2.1),(.osl 3)]),(1,.cells [(.osl 4)]),(3,.arr 3 T1 y.2.2.2.1),(4,.arr 61 T8 y.2.2.2.2)]
 nout := 5
theorem C43_vc (r_t_l : List (Int×Int×Int×Int×(List Int)×(List Int))) (r_e:Int) (r_p : List Int) (r_leafs : List Int) (d : List Int) (v : List Int) (y : Int×Int×(List Int)×(List Int)×(List (Int×Int×Int×Int×(List Int)×(List Int)))) (hF : f43 r_t_l r_e r_p r_leafs d v = some y) : vc Tryz.prog tab Tryz.f43.ntmps 4 (match Tryz.f43.body with | some c=>c | none=>.skip) (retK tab C43 Tryz.f43.results.toList y) (C43.shIn (r_t_l,r_e,r_p,r_leafs,d,v)).st := by
 unfold f43 at hF
 refine OL (OL (OL (condI hF (fun hF=>?_) (fun hF=>?_))))
 ·refine OL ?_
  have hy := someE hF
  subst hy
  refine AI rfl (E4 [(0,some 0),(1,some 1),(3,some 3),(4,some 2)] (R2 (AI TV (R4 TV))))
 refine OL ?_
 obtain ⟨r1,hr1,hF⟩ := bindE hF
 refine OL (AI f69_in (callV0 (callI C69 (r_t_l,(d,v)) r1 [(0,some 1),(1,some 2)] false C69_holds hr1 rfl rfl (R2 (AI (fun h=>nomatch h) (R2 (AI (AI rfl TV) (AI (R2 TV) (OL (OL (OL ?_)))))))))))
 have hy := someE hF
 subst hy
 refine AI rfl (E4 [(0,some 0),(1,some 1),(3,some 3),(4,some 6)] (R2 (AI TV (R4 TV))))
theorem C43_holds : C43.Holds Tryz.prog 43 := holds_of_vc tab_ok mixed (fn := Tryz.f43) (by kernel_rfl) rfl C43 (fun x y hF=>C43_vc x.1 x.2.1 x.2.2.1 x.2.2.2.1 x.2.2.2.2.1 x.2.2.2.2.2 y hF)
theorem f43_in : InP 43 := ⟨Tryz.f43,by kernel_rfl,by kernel_rfl,by kernel_rfl⟩
def f70_j4 (l : List (List Int)) (v12:Int) (c0_1:Int) (c0_2 : List Int) (l4 : List Int) (l5 : List (Int×Int×Int×Int×(List Int)×(List Int))) : Option (Int×Int×(List Int)×(List Int)×(List (Int×Int×Int×Int×(List Int)×(List Int)))) :=
 bindF (f42 (rd (Ty.z T6) l v12)) fun q5_7 =>
 guardF (0 ≤ q5_7 ∧ q5_7 ≤ (List.length c0_2:Int)) <|
 bindF (f43 l5 c0_1 c0_2 l4 (rd (Ty.z T6) l v12) (List.take (Int.toNat q5_7) c0_2)) fun q5_9 =>
 some (q5_9.1,q5_9.2.1,q5_9.2.2.1,q5_9.2.2.2.1,q5_9.2.2.2.2)
def f70_l3 (l : List (List Int)) (go : (Int×Int×Int×Int×(List Int)×(List Int)×(List (Int×Int×Int×Int×(List Int)×(List Int)))) → Option (Int×Int×Int×(List Int)×(List Int)×(List (Int×Int×Int×Int×(List Int)×(List Int))))) (first:Int) (last:Int) (v12:Int) (c0_1:Int) (c0_2 : List Int) (l4 : List Int) (l5 : List (Int×Int×Int×Int×(List Int)×(List Int))) : Option (Int×Int×Int×(List Int)×(List Int)×(List (Int×Int×Int×Int×(List Int)×(List Int)))) :=
 bif (decide (v12 < (List.length l:Int))) then
 guardF (0 ≤ v12 ∧ v12 < (List.length l:Int)) <|
 bindF (f70_j4 l v12 c0_1 c0_2 l4 l5) fun z4 =>
 bindF (f42 (rd (Ty.z T6) l v12)) fun q6_6 =>
 guardF (0 ≤ q6_6 ∧ q6_6 ≤ (List.length z4.2.2.1:Int)) <|
 guardF ((List.length z4.2.2.2.1 + List.length ([z4.1])) * 8 ≤ 140737488355328) <|
 bif (v12 == (0:Int)) then
 go (z4.1,z4.1,(i64.wrap (v12 + (1:Int))),z4.2.1,(List.drop (Int.toNat q6_6) z4.2.2.1),(z4.2.2.2.1 ++ ([z4.1])),z4.2.2.2.2)
 else
 go (first,z4.1,(i64.wrap (v12 + (1:Int))),z4.2.1,(List.drop (Int.toNat q6_6) z4.2.2.1),(z4.2.2.2.1 ++ ([z4.1])),z4.2.2.2.2)
 else
 some (first,last,c0_1,c0_2,l4,l5)
def f70 (r_t_l : List (Int×Int×Int×Int×(List Int)×(List Int))) (r_e:Int) (r_p : List Int) (r_leafs : List Int) (l : List (List Int)) : Option (Int×Int×Int×(List Int)×(List Int)×(List (Int×Int×Int×Int×(List Int)×(List Int)))) :=
 bindF (loopF (fun go x=>f70_l3 l go x.1 x.2.1 x.2.2.1 x.2.2.2.1 x.2.2.2.2.1 x.2.2.2.2.2.1 x.2.2.2.2.2.2) fuelN ((0:Int),(0:Int),(0:Int),r_e,r_p,r_leafs,r_t_l)) fun z3 =>
 some (z3.1,z3.2.1,z3.2.2.1,z3.2.2.2.1,z3.2.2.2.2.1,z3.2.2.2.2.2)
def C70 : Con where
 X := (List (Int×Int×Int×Int×(List Int)×(List Int)))×Int×(List Int)×(List Int)×(List (List Int))
 Y := Int×Int×Int×(List Int)×(List Int)×(List (Int×Int×Int×Int×(List Int)×(List Int)))
 e := 4
 args x := [P0 0 0,.dat T7 x.2.2.2.2]
 hin x := [(0,.cells [(.ptr 1 0),(.d T1 x.2.1),(.d T6 x.2.2.1),(.osl 3)]),(1,.cells [(.osl 2)]),(2,.arr 61 T8 x.1),(3,.arr 3 T1 x.2.2.2.1)]
 F x := f70 x.1 x.2.1 x.2.2.1 x.2.2.2.1 x.2.2.2.2
 ret y := [.dat T1 y.1,.dat T1 y.2.1]
 hout y := [(0,.cells [(.ptr 1 0),(.d T1 y.2.2.1),(.d T6 y.2.2.2.1),(.osl 4)]),(1,.cells [(.osl 5)]),(4,.arr 3 T1 y.2.2.2.2.1),(5,.arr 61 T8 y.2.2.2.2.2)]
 nout := 6
theorem C70_vc (r_t_l : List (Int×Int×Int×Int×(List Int)×(List Int))) (r_e:Int) (r_p : List Int) (r_leafs : List Int) (l : List (List Int)) (y : Int×Int×Int×(List Int)×(List Int)×(List (Int×Int×Int×Int×(List Int)×(List Int)))) (hF : f70 r_t_l r_e r_p r_leafs l = some y) : vc Tryz.prog tab Tryz.f70.ntmps 4 (match Tryz.f70.body with | some c=>c | none=>.skip) (retK tab C70 Tryz.f70.results.toList y) (C70.shIn (r_t_l,r_e,r_p,r_leafs,l)).st := by
 unfold f70 at hF
 refine OL (OL (OL (OL ?_)))
 obtain ⟨z3,hz3,hF⟩ := bindE hF
 refine loopI (Int×Int×Int×Int×(List Int)×(List Int)×(List (Int×Int×Int×Int×(List Int)×(List Int)))) (Int×Int×Int×(List Int)×(List Int)×(List (Int×Int×Int×Int×(List Int)×(List Int)))) (fun x=>⟨[(0,P0 0 0),(6,.dat T1 x.1),(7,.dat T1 x.2.1),(10,.dat T7 l),(11,.dat T1 (List.length l:Int)),(12,.dat T1 x.2.2.1)],[(0,.cells [(.ptr 1 0),(.d T1 x.2.2.2.1),(.d T6 x.2.2.2.2.1),(.osl 4)]),(1,.cells [(.osl 5)]),(4,.arr 3 T1 x.2.2.2.2.2.1),(5,.arr 61 T8 x.2.2.2.2.2.2)],6⟩) (fun z=>[(2,⟨[(6,.dat T1 z.1),(7,.dat T1 z.2.1)],[(0,.cells [(.ptr 1 0),(.d T1 z.2.2.1),(.d T6 z.2.2.2.1),(.osl 4)]),(1,.cells [(.osl 5)]),(4,.arr 3 T1 z.2.2.2.2.1),(5,.arr 61 T8 z.2.2.2.2.2)],6⟩)]) (loopF (fun go x=>f70_l3 l go x.1 x.2.1 x.2.2.1 x.2.2.2.1 x.2.2.2.2.1 x.2.2.2.2.2.1 x.2.2.2.2.2.2)) fuelN ((0:Int),(0:Int),(0:Int),r_e,r_p,r_leafs,r_t_l) z3 (AI hz3 (AI (E4 [(0,some 0),(1,some 1),(4,some 3),(5,some 2)] (R6 (AI (AI rfl TV) (R4 TV)))) (AI (fun _ _ h=>loopZ h) (AI (fun m=>curI (fun first=>curI (fun last=>curI (fun v12=>curI (fun c0_1=>curI (fun c0_2=>curI (fun l4=>fun l5 z hF=>?_))))))) ?_))))
 ·have hF : f70_l3 l (loopF (fun go x=>f70_l3 l go x.1 x.2.1 x.2.2.1 x.2.2.2.1 x.2.2.2.2.1 x.2.2.2.2.2.1 x.2.2.2.2.2.2) m) first last v12 c0_1 c0_2 l4 l5 = some z := hF
  unfold f70_l3 at hF
  refine OL (OL (condI hF (fun hF=>?_) (fun hF=>?_)))
  ·refine OL (OL (guardI hF (fun hF=>?_)))
   obtain ⟨z4,hz4,hF⟩ := bindE hF
   refine OQ ⟨[(0,⟨[(0,P0 0 0),(6,.dat T1 first),(7,.dat T1 z4.1),(8,.dat T1 v12),(9,.dat T6 (rd (Ty.z T6) l v12)),(10,.dat T7 l),(11,.dat T1 (List.length l:Int)),(12,.dat T1 v12)],[(0,.cells [(.ptr 1 0),(.d T1 z4.2.1),(.d T6 z4.2.2.1),(.osl 4)]),(1,.cells [(.osl 5)]),(4,.arr 3 T1 z4.2.2.2.1),(5,.arr 61 T8 z4.2.2.2.2)],6⟩)],?_,?_⟩
   ·have hF := hz4
    clear hz4
    unfold f70_j4 at hF
    obtain ⟨q5_7,hq5_7,hF⟩ := bindE hF
    obtain ⟨g5_1,hF⟩ := guardE hF
    obtain ⟨q5_9,hq5_9,hF⟩ := bindE hF
    refine EI (.take 0 (.take 1 (.take 2 (.take 3 (.take 4 (.take 6 (.alt 5 (.alt 7 (.take 8 (.alt 9 (.take 10 .done) .done)) .done) (.alt 7 (.alt 5 (.take 8 (.alt 9 (.take 10 .done) .done)) .done) .done)))))))) (EI [(9,[0])] (EI [] (AI rfl (AI (AI TV ?_) ?_))))
    ·refine OL (AI f42_in (callV0 (callI C42 (rd (Ty.z T6) l v12) q5_7 [] false C42_holds hq5_7 rfl rfl (AI rfl (AI (fun h=>nomatch h) (R2 (AI TV (AI TV (AI TV (AI g5_1 (AI TV (OL (AI f43_in (callV0 (callI C43 (l5,c0_1,c0_2,l4,(rd (Ty.z T6) l v12),(List.take (Int.toNat q5_7) c0_2)) q5_9 [(0,some 0),(1,some 1),(2,some 5),(3,some 4)] false C43_holds hq5_9 rfl rfl (R2 (AI (fun h=>nomatch h) (R2 (AI (AI rfl TV) (AI (R4 TV) ?_))))))))))))))))))))
     have hz := someE hF
     subst hz
     refine E4 [(0,some 0),(1,some 1),(4,some 4),(5,some 10)] (R8 (AI (AI rfl TV) (R4 TV)))
    refine AI TV (OL (AI f42_in (callV0 (callI C42 (rd (Ty.z T6) l v12) q5_7 [] false C42_holds hq5_7 rfl rfl (AI rfl (AI (fun h=>nomatch h) (R2 (AI TV (AI TV (AI g5_1 (AI TV (OL (AI f43_in (callV0 (callI C43 (l5,c0_1,c0_2,l4,(rd (Ty.z T6) l v12),(List.take (Int.toNat q5_7) c0_2)) q5_9 [(0,some 0),(1,some 1),(2,some 5),(3,some 4)] false C43_holds hq5_9 rfl rfl (R2 (AI (fun h=>nomatch h) (R2 (AI (AI rfl TV) (AI (R4 TV) ?_))))))))))))))))))))
    have hz := someE hF
    subst hz
    refine E4 [(0,some 0),(1,some 1),(4,some 4),(5,some 10)] (R8 (AI (AI rfl TV) (R4 TV)))
   refine AI (OL (EI (.take 0 (.take 1 (.take 2 (.take 3 (.take 4 (.take 5 (.alt 6 (.take 7 (.take 8 (.take 9 (.alt 10 .done .done)))) .done))))))) (EI [(10,[0])] (EI [] (AI rfl (AI TV ?_)))))) TV
   obtain ⟨q6_6,hq6_6,hF⟩ := bindE hF
   refine OL (AI f42_in (callV0 (callI C42 (rd (Ty.z T6) l v12) q6_6 [] false C42_holds hq6_6 rfl rfl (AI rfl (AI (fun h=>nomatch h) (R2 (AI TV (AI TV (guardI hF (fun hF=>?_))))))))))
   refine AI TV (OL (OL (OL (OL (guardI hF (fun hF=>?_))))))
   refine OL (OL (condI hF (fun hF=>?_) (fun hF=>?_)))
   ·refine EI (z4.1,z4.1,(i64.wrap (v12 + (1:Int))),z4.2.1,(List.drop (Int.toNat q6_6) z4.2.2.1),(z4.2.2.2.1 ++ ([z4.1])),z4.2.2.2.2) (AI hF (E4 [(0,some 0),(1,some 1),(4,some 7),(5,some 5)] (R6 (AI (AI rfl TV) (R4 TV)))))
   refine EI (first,z4.1,(i64.wrap (v12 + (1:Int))),z4.2.1,(List.drop (Int.toNat q6_6) z4.2.2.1),(z4.2.2.2.1 ++ ([z4.1])),z4.2.2.2.2) (AI hF (E4 [(0,some 0),(1,some 1),(4,some 7),(5,some 5)] (R6 (AI (AI rfl TV) (R4 TV)))))
  have hz := someE hF
  subst hz
  refine E4 [(0,some 0),(1,some 1),(4,some 4),(5,some 5)] (R3 (AI TV (R4 TV)))
 refine AI (OL ?_) TV
 have hy := someE hF
 subst hy
 refine AI rfl (E4 [(0,some 0),(1,some 1),(4,some 4),(5,some 5)] (R3 (AI TV (R4 TV))))
theorem C70_holds : C70.Holds Tryz.prog 70 := holds_of_vc tab_ok mixed (fn := Tryz.f70) (by kernel_rfl) rfl C70 (fun x y hF=>C70_vc x.1 x.2.1 x.2.2.1 x.2.2.2.1 x.2.2.2.2 y hF)
theorem f70_in : InP 70 := ⟨Tryz.f70,by kernel_rfl,by kernel_rfl,by kernel_rfl⟩
def f48 (t_l : List (Int×Int×Int×Int×(List Int)×(List Int))) (n:Int) : Option (Bool×(List (Int×Int×Int×Int×(List Int)×(List Int)))) :=
 bif (decide (n ≥ (0:Int))) then
 some ((decide (n < (List.length t_l:Int))),t_l)
 else
 some (false,t_l)
def C48 : Con where
 X := (List (Int×Int×Int×Int×(List Int)×(List Int)))×Int
 Y := Bool×(List (Int×Int×Int×Int×(List Int)×(List Int)))
 e := 2
 args x := [P0 0 0,.dat T1 x.2]
 hin x := [(0,.cells [(.osl 1)]),(1,.arr 61 T8 x.1)]
 F x := f48 x.1 x.2
 ret y := [.dat .bool y.1]
 hout y := [(0,.cells [(.osl 1)]),(1,.arr 61 T8 y.2)]
 nout := 2
theorem C48_vc (t_l : List (Int×Int×Int×Int×(List Int)×(List Int))) (n:Int) (y : Bool×(List (Int×Int×Int×Int×(List Int)×(List Int)))) (hF : f48 t_l n = some y) : vc Tryz.prog tab Tryz.f48.ntmps 2 (match Tryz.f48.body with | some c=>c | none=>.skip) (retK tab C48 Tryz.f48.results.toList y) (C48.shIn (t_l,n)).st := by
 unfold f48 at hF
 refine OL (OL (condI hF (fun hF=>?_) (fun hF=>?_)))
 ·refine gdYT (gdYT (gdYT (gdYT (gdYT (gdYT (condT ?_))))))
  have hy := someE hF
  subst hy
  refine AI rfl (E4 [(0,some 0),(1,some 1)] (R2 (AI TV (R2 TV))))
 refine gdNT (gdNT (gdNT (gdNT (gdNT (gdNT (condF ?_))))))
 have hy := someE hF
 subst hy
 refine AI rfl (E4 [(0,some 0),(1,some 1)] (R2 (AI TV (R2 TV))))
theorem C48_holds : C48.Holds Tryz.prog 48 := holds_of_vc tab_ok mixed (fn := Tryz.f48) (by kernel_rfl) rfl C48 (fun x y hF=>C48_vc x.1 x.2 y hF)
theorem f48_in : InP 48 := ⟨Tryz.f48,by kernel_rfl,by kernel_rfl,by kernel_rfl⟩
def f118 (op:Int) : Option Bool :=
 bif (op == (2:Int)) then
 some true
 else
 bif (op == (3:Int)) then
 some true
 else
 bif (op == (4:Int)) then
 some true
 else
 bif (op == (6:Int)) then
 some true
 else
 some (op == (12:Int))
def C118 : Con where
 X := Int
 Y := Bool
 e := 0
 args x := [.dat T1 x]
 hin x := []
 F x := f118 x
 ret y := [.dat .bool y]
 hout y := []
 nout := 0
theorem C118_vc (op:Int) (y : Bool) (hF : f118 op = some y) : VC Tryz.f118 C118 op y := by
 unfold f118 at hF
 refine OL (OL (condN hF (fun hF=>?_) (fun hF=>?_)))
 ·refine gdYF (condF (condN hF (fun hF=>?_) (fun hF=>?_)))
  ·refine gdYF (condF (condN hF (fun hF=>?_) (fun hF=>?_)))
   ·refine gdYF (condF (condN hF (fun hF=>?_) (fun hF=>?_)))
    ·refine gdYF (condF ?_)
     have hy := someE hF
     subst hy
     refine AI rfl (E4 [] (R2 (AI TV TV)))
    refine gdNF (condT ?_)
    have hy := someE hF
    subst hy
    refine AI rfl (E4 [] (R2 (AI TV TV)))
   refine gdNF (condT (gdNF (gdNF (condT ?_))))
   have hy := someE hF
   subst hy
   refine AI rfl (E4 [] (R2 (AI TV TV)))
  refine gdNF (condT (gdNF (gdNF (condT (gdNF (gdNF (condT ?_)))))))
  have hy := someE hF
  subst hy
  refine AI rfl (E4 [] (R2 (AI TV TV)))
 refine gdNF (condT (gdNF (gdNF (condT (gdNF (gdNF (condT (gdNF (gdNF (condT ?_))))))))))
 have hy := someE hF
 subst hy
 refine AI rfl (E4 [] (R2 (AI TV TV)))
theorem C118_holds : C118.Holds Tryz.prog 118 := holds_of_vc tab_ok mixed (fn := Tryz.f118) (by kernel_rfl) rfl C118 (fun x y hF=>C118_vc x y hF)
theorem f118_in : InP 118 := ⟨Tryz.f118,by kernel_rfl,by kernel_rfl,by kernel_rfl⟩
def f119 (op:Int) : Option Bool :=
 bif (op == (5:Int)) then
 some true
 else
 bif (op == (8:Int)) then
 some true
 else
 bif (op == (11:Int)) then
 some true
 else
 bif (op == (12:Int)) then
 some true
 else
 some (op == (13:Int))
def C119 : Con where
 X := Int
 Y := Bool
 e := 0
 args x := [.dat T1 x]
 hin x := []
 F x := f119 x
 ret y := [.dat .bool y]
 hout y := []
 nout := 0
theorem C119_vc (op:Int) (y : Bool) (hF : f119 op = some y) : VC Tryz.f119 C119 op y := by
 unfold f119 at hF
 refine OL (OL (condN hF (fun hF=>?_) (fun hF=>?_)))
 ·refine gdYF (condF (condN hF (fun hF=>?_) (fun hF=>?_)))
  ·refine gdYF (condF (condN hF (fun hF=>?_) (fun hF=>?_)))
   ·refine gdYF (condF (condN hF (fun hF=>?_) (fun hF=>?_)))
    ·refine gdYF (condF ?_)
     have hy := someE hF
     subst hy
     refine AI rfl (E4 [] (R2 (AI TV TV)))
    refine gdNF (condT ?_)
    have hy := someE hF
    subst hy
    refine AI rfl (E4 [] (R2 (AI TV TV)))
   refine gdNF (condT (gdNF (gdNF (condT ?_))))
   have hy := someE hF
   subst hy
   refine AI rfl (E4 [] (R2 (AI TV TV)))
  refine gdNF (condT (gdNF (gdNF (condT (gdNF (gdNF (condT ?_)))))))
  have hy := someE hF
  subst hy
  refine AI rfl (E4 [] (R2 (AI TV TV)))
 refine gdNF (condT (gdNF (gdNF (condT (gdNF (gdNF (condT (gdNF (gdNF (condT ?_))))))))))
 have hy := someE hF
 subst hy
 refine AI rfl (E4 [] (R2 (AI TV TV)))
theorem C119_holds : C119.Holds Tryz.prog 119 := holds_of_vc tab_ok mixed (fn := Tryz.f119) (by kernel_rfl) rfl C119 (fun x y hF=>C119_vc x y hF)
theorem f119_in : InP 119 := ⟨Tryz.f119,by kernel_rfl,by kernel_rfl,by kernel_rfl⟩
def f222 (d : List Int) (i:Int) : Option Int :=
 bif (decide (i ≥ (List.length d:Int))) then
 some (1:Int)
 else
 guardF (0 ≤ (i64.wrap ((i64.wrap ((List.length d:Int) - (1:Int))) - i)) ∧ (i64.wrap ((i64.wrap ((List.length d:Int) - (1:Int))) - i)) < (List.length d:Int)) <|
 some (rd (0:Int) d (i64.wrap ((i64.wrap ((List.length d:Int) - (1:Int))) - i)))
def C222 : Con where
 X := (List Int)×Int
 Y := Int
 e := 0
 args x := [.dat T6 x.1,.dat T1 x.2]
 hin x := []
 F x := f222 x.1 x.2
 ret y := [.dat T1 y]
 hout y := []
 nout := 0
theorem C222_vc (d : List Int) (i:Int) (y:Int) (hF : f222 d i = some y) : VC Tryz.f222 C222 (d,i) y := by
 unfold f222 at hF
 refine OL (OL (OL (condI hF (fun hF=>?_) (fun hF=>?_))))
 ·refine OL ?_
  have hy := someE hF
  subst hy
  refine AI rfl (E4 [] (R2 (AI TV TV)))
 refine OL (guardI hF (fun hF=>?_))
 have hy := someE hF
 subst hy
 refine AI rfl (E4 [] (R2 (AI TV TV)))
theorem C222_holds : C222.Holds Tryz.prog 222 := holds_of_vc tab_ok mixed (fn := Tryz.f222) (by kernel_rfl) rfl C222 (fun x y hF=>C222_vc x.1 x.2 y hF)
theorem f222_in : InP 222 := ⟨Tryz.f222,by kernel_rfl,by kernel_rfl,by kernel_rfl⟩
def f195_j1 (a : List Int) (b : List Int) : Option (Sum Unit Unit) :=
 bindF (f65 a) fun r4 =>
 bif (!r4) then
 some (Sum.inr ())
 else
 bindF (f65 b) fun r5 =>
 bif (!r5) then
 some (Sum.inr ())
 else
 some (Sum.inl ())
def f195_j5 (r13:Int) (r14:Int) : Option (Sum Unit Unit) :=
 bif (r13 != r14) then
 bif (r13 != (1:Int)) then
 bif (r14 != (1:Int)) then
 some (Sum.inr ())
 else
 some (Sum.inl ())
 else
 some (Sum.inl ())
 else
 some (Sum.inl ())
def f195_l4 (a : List Int) (b : List Int) (go : (Int×(List Int)) → Option (Sum Unit (List Int))) (v26:Int) (l0 : List Int) : Option (Sum Unit (List Int)) :=
 bif (decide (v26 < (List.length (List.replicate (Int.toNat (if (List.length b:Int) > (List.length a:Int) then (List.length b:Int) else (List.length a:Int))) (0:Int)):Int))) then
 bindF (f222 a v26) fun r13 =>
 bindF (f222 b v26) fun r14 =>
 bindF (f195_j5 r13 r14) fun z15 =>
 sumF z15 (fun z15a =>
 guardF (0 ≤ (i64.wrap ((i64.wrap ((List.length l0:Int) - (1:Int))) - v26)) ∧ (i64.wrap ((i64.wrap ((List.length l0:Int) - (1:Int))) - v26)) < (List.length l0:Int)) <|
 go ((i64.wrap (v26 + (1:Int))),(List.set l0 (Int.toNat (i64.wrap ((i64.wrap ((List.length l0:Int) - (1:Int))) - v26))) (if r14 > r13 then r14 else r13)))) (fun z15b =>
 some (Sum.inl ()))
 else
 some (Sum.inr l0)
def f195 (a : List Int) (b : List Int) : Option (Int×(List Int)) :=
 bindF (f195_j1 a b) fun z3 =>
 sumF z3 (fun z3a =>
 guardF (0 ≤ (if (List.length b:Int) > (List.length a:Int) then (List.length b:Int) else (List.length a:Int)) ∧ (if (List.length b:Int) > (List.length a:Int) then (List.length b:Int) else (List.length a:Int)) ≤ (if (List.length b:Int) > (List.length a:Int) then (List.length b:Int) else (List.length a:Int)) ∧ Int.toNat (if (List.length b:Int) > (List.length a:Int) then (List.length b:Int) else (List.length a:Int)) * 8 ≤ 140737488355328) <|
 bindF (loopF (fun go x=>f195_l4 a b go x.1 x.2) fuelN ((0:Int),(List.replicate (Int.toNat (if (List.length b:Int) > (List.length a:Int) then (List.length b:Int) else (List.length a:Int))) (0:Int)))) fun z12 =>
 sumF z12 (fun z12a =>
 some ((4:Int),[])) (fun z12b =>
 bindF (f65 z12b) fun r16 =>
 bif (!r16) then
 some ((2:Int),[])
 else
 some ((0:Int),z12b))) (fun z3b =>
 some ((1:Int),[]))
def C195 : Con where
 X := (List Int)×(List Int)
 Y := Int×(List Int)
 e := 0
 args x := [.dat T6 x.1,.dat T6 x.2]
 hin x := []
 F x := f195 x.1 x.2
 ret y := [O0 0,.dat T1 y.1]
 hout y := [(0,.arr 3 T1 y.2)]
 nout := 1
theorem C195_vc (a : List Int) (b : List Int) (y : Int×(List Int)) (hF : f195 a b = some y) : VC Tryz.f195 C195 (a,b) y := by
 unfold f195 at hF
 refine OL ?_
 obtain ⟨z3,hz3,hF⟩ := bindE hF
 refine OQ ⟨Sum.elim (fun z3a=>[(0,⟨[(0,.dat T6 a),(1,.dat T6 b)],[],0⟩)]) (fun z3b=>[(1,⟨[(4,.raw false [N0]),(5,D0 1)],[],0⟩)]) z3,?_,?_⟩
 ·have hF := hz3
  clear hz3
  unfold f195_j1 at hF
  refine OL ?_
  obtain ⟨r4,hr4,hF⟩ := bindE hF
  refine OL (AI f65_in (callV0 (callI C65 a r4 [] false C65_holds hr4 rfl rfl (AI rfl (AI (fun h=>nomatch h) (R2 (AI TV (AI TV (condN hF (fun hF=>?_) (fun hF=>?_))))))))))
  ·refine gdYF ?_
   obtain ⟨r5,hr5,hF⟩ := bindE hF
   refine OL (AI f65_in (callV0 (callI C65 b r5 [] false C65_holds hr5 rfl rfl (AI rfl (AI (fun h=>nomatch h) (R2 (AI TV (AI TV (gdYF (condF (condI hF (fun hF=>?_) (fun hF=>?_))))))))))))
   ·refine OL ?_
    have hz := someE hF
    subst hz
    refine E4 [] (R2 (AI (AI rfl TV) TV))
   have hz := someE hF
   subst hz
   refine E4 [] (R3 (AI TV TV))
  refine gdNF (gdNF (condT (condT (OL ?_))))
  have hz := someE hF
  subst hz
  refine E4 [] (R2 (AI (AI rfl TV) TV))
 rcases z3 with z3a | z3b
 ·dsimp only [sumF] at hF
  refine AI (OL (guardI hF (fun hF=>?_))) TV
  refine OL (OL ?_)
  obtain ⟨z12,hz12,hF⟩ := bindE hF
  refine loopI (Int×(List Int)) (Sum Unit (List Int)) (fun x=>⟨[(0,.dat T6 a),(1,.dat T6 b),(6,O0 0),(25,.dat T1 (List.length (List.replicate (Int.toNat (if (List.length b:Int) > (List.length a:Int) then (List.length b:Int) else (List.length a:Int))) (0:Int)):Int)),(26,.dat T1 x.1)],[(0,.arr 3 T1 x.2)],1⟩) (fun z=>Sum.elim (fun za=>[(1,⟨[(4,.raw false [N0]),(5,D0 4)],[],0⟩)]) (fun zb=>[(2,⟨[(6,O0 0)],[(0,.arr 3 T1 zb)],1⟩)]) z) (loopF (fun go x=>f195_l4 a b go x.1 x.2)) fuelN ((0:Int),(List.replicate (Int.toNat (if (List.length b:Int) > (List.length a:Int) then (List.length b:Int) else (List.length a:Int))) (0:Int))) z12 (AI hz12 (AI (E4 [(0,some 0)] (R5 (AI (AI rfl TV) (AI rfl TV)))) (AI (fun _ _ h=>loopZ h) (AI (fun m=>curI (fun v26=>fun l0 z hF=>?_)) ?_))))
  ·have hF : f195_l4 a b (loopF (fun go x=>f195_l4 a b go x.1 x.2) m) v26 l0 = some z := hF
   unfold f195_l4 at hF
   refine OL (OL (condI hF (fun hF=>?_) (fun hF=>?_)))
   ·refine OL (OL (OL ?_))
    obtain ⟨r13,hr13,hF⟩ := bindE hF
    refine OL (AI f222_in (callV0 (callI C222 (a,v26) r13 [] false C222_holds hr13 rfl rfl (R2 (AI (fun h=>nomatch h) (R2 (AI TV (AI TV ?_))))))))
    obtain ⟨r14,hr14,hF⟩ := bindE hF
    refine OL (AI f222_in (callV0 (callI C222 (b,v26) r14 [] false C222_holds hr14 rfl rfl (R2 (AI (fun h=>nomatch h) (R2 (AI TV (AI TV ?_))))))))
    obtain ⟨z15,hz15,hF⟩ := bindE hF
    refine OQ ⟨Sum.elim (fun z15a=>[(0,⟨[(0,.dat T6 a),(1,.dat T6 b),(6,O0 0),(7,.dat T1 v26),(8,.dat T1 r13),(9,.dat T1 r14),(25,.dat T1 (List.length (List.replicate (Int.toNat (if (List.length b:Int) > (List.length a:Int) then (List.length b:Int) else (List.length a:Int))) (0:Int)):Int)),(26,.dat T1 v26)],[(0,.arr 3 T1 l0)],1⟩)]) (fun z15b=>[(1,⟨[(4,.raw false [N0]),(5,D0 4)],[],0⟩)]) z15,?_,?_⟩
    ·have hF := hz15
     clear hz15
     unfold f195_j5 at hF
     refine OL (condI hF (fun hF=>?_) (fun hF=>?_))
     ·refine gdYT (condT (condI hF (fun hF=>?_) (fun hF=>?_)))
      ·refine gdYT (condT (condI hF (fun hF=>?_) (fun hF=>?_)))
       ·refine OL ?_
        have hz := someE hF
        subst hz
        refine E4 [] (R2 (AI (AI rfl TV) TV))
       have hz := someE hF
       subst hz
       refine E4 [(0,some 0)] (R8 (AI (AI rfl TV) (AI rfl TV)))
      refine gdNT (condF (condF ?_))
      have hz := someE hF
      subst hz
      refine E4 [(0,some 0)] (R8 (AI (AI rfl TV) (AI rfl TV)))
     refine gdNT (condF (gdNT (gdNT (condF (condF ?_)))))
     have hz := someE hF
     subst hz
     refine E4 [(0,some 0)] (R8 (AI (AI rfl TV) (AI rfl TV)))
    rcases z15 with z15a | z15b
    ·dsimp only [sumF] at hF
     refine AI (guardI hF (fun hF=>?_)) TV
     refine OL (EI ((i64.wrap (v26 + (1:Int))),(List.set l0 (Int.toNat (i64.wrap ((i64.wrap ((List.length l0:Int) - (1:Int))) - v26))) (if r14 > r13 then r14 else r13))) (AI hF (E4 [(0,some 0)] (R5 (AI (AI rfl TV) (AI rfl TV))))))
    dsimp only [sumF] at hF
    refine AI ?_ TV
    have hz := someE hF
    subst hz
    refine E4 [] (R2 (AI (AI rfl TV) TV))
   have hz := someE hF
   subst hz
   refine E4 [(0,some 0)] (AI rfl (AI (AI rfl TV) (AI rfl TV)))
  rcases z12 with z12a | z12b
  ·dsimp only [sumF] at hF
   refine AI ?_ TV
   have hy := someE hF
   subst hy
   refine AI rfl (E4 [(0,none)] (R2 (AI (AI rfl TV) (AI rfl TV))))
  dsimp only [sumF] at hF
  refine AI (OL (OL ?_)) TV
  obtain ⟨r16,hr16,hF⟩ := bindE hF
  refine OL (AI f65_in (callV0 (callI C65 z12b r16 [] true C65_holds hr16 rfl rfl (AI rfl (AI (fun _=>rfl) (R2 (AI TV (AI TV (condI hF (fun hF=>?_) (fun hF=>?_))))))))))
  ·refine OL ?_
   have hy := someE hF
   subst hy
   refine AI rfl (E4 [(0,none)] (R2 (AI (AI rfl TV) (AI rfl TV))))
  refine OL ?_
  have hy := someE hF
  subst hy
  refine AI rfl (E4 [(0,some 0)] (R2 (AI (AI rfl TV) (AI rfl TV))))
 dsimp only [sumF] at hF
 refine AI ?_ TV
 have hy := someE hF
 subst hy
 refine AI rfl (E4 [(0,none)] (R2 (AI (AI rfl TV) (AI rfl TV))))
theorem C195_holds : C195.Holds Tryz.prog 195 := holds_of_vc tab_ok mixed (fn := Tryz.f195) (by kernel_rfl) rfl C195 (fun x y hF=>C195_vc x.1 x.2 y hF)
theorem f195_in : InP 195 := ⟨Tryz.f195,by kernel_rfl,by kernel_rfl,by kernel_rfl⟩
end Go.Proofs
