import Derived.Test.YtoicgngppmpapaaGreatLossSaysS1
set_option linter.unusedVariables false
set_option maxRecDepth 100000
set_option maxHeartbeats 8000000
namespace Go.Proofs
open Go.AM
open IntKind (i64 u64 i32 u32 i16 u16 i8 u8)
def f19_j1 (x_ : LI×LI) : Option Unit :=
 guardF ((List.length ([] : LI) + List.length x_.1) * 8 ≤ 140737488355328) <|
 guardF ((List.length ([] : LI) + List.length x_.2) * 8 ≤ 140737488355328) <|
 some ()
def f19 (t_L : NL) (x_ : LI×LI) : Option (Int×Int×NL) :=
 bif (decide ((List.length t_L:Int) ≥ (512:Int))) then
 some ((0:Int),(2:Int),t_L)
 else
 bindF (f62 (x_.1,x_.2)) fun r1 =>
 bif (!r1) then
 some ((0:Int),(1:Int),t_L)
 else
 bindF (f19_j1 x_) fun z2 =>
 guardF ((List.length t_L + List.length ([((1:Int),(-1:Int),(-1:Int),(0:Int),(([] : LI) ++ x_.1),(([] : LI) ++ x_.2))])) * 80 ≤ 140737488355328) <|
 some ((i64.wrap ((List.length (t_L ++ ([((1:Int),(-1:Int),(-1:Int),(0:Int),(([] : LI) ++ x_.1),(([] : LI) ++ x_.2))])):Int) - (1:Int))),(0:Int),(t_L ++ ([((1:Int),(-1:Int),(-1:Int),(0:Int),(([] : LI) ++ x_.1),(([] : LI) ++ x_.2))])))
def C19 : Con where
 X := NL×(LI×LI)
 Y := Int×Int×NL
 e := 2
 args x := [P0 0 0,.dat T3 x.2]
 hin x := [(0,.cells [(.osl 1)]),(1,.arr 45 T0 x.1)]
 F x := f19 x.1 x.2
 ret y := [.dat T2 y.1,.dat T2 y.2.1]
 hout y := [(0,.cells [(.osl 2)]),(2,.arr 45 T0 y.2.2)]
 nout := 3
theorem C19_vc (t_L : NL) (x_ : LI×LI) (y : Int×Int×NL) (q : f19 t_L x_ = some y) : VE Tryz.f19 2 C19 (t_L,x_) y := by
 unfold f19 at q
 refine OL (OL (OL (cI q (fun q=>?_) (fun q=>?_))))
 ·cases sE q
  refine OL (AI rfl (E4 [(0,some 0),(2,some 1)] (R3 (AI TV (R2 TV)))))
 refine OL (OL ?_)
 obtain ⟨r1,hr1,q⟩ := bE q
 refine OL (AI f62_in (cV (cQ C62 (x_.1,x_.2) r1 [] false C62_holds hr1 rfl rfl (R2 (K0 (cI q (fun q=>?_) (fun q=>?_)))))))
 ·cases sE q
  refine OL (AI rfl (E4 [(0,some 0),(2,some 1)] (R3 (AI TV (R2 TV)))))
 obtain ⟨z2,hz2,q⟩ := bE q
 refine OQ ⟨[(0,⟨[(0,P0 0 0),(6,P0 2 0)],[(0,.cells [(.osl 1)]),(1,.arr 45 T0 t_L),(2,.cells [(.osl 3),(.osl 4)]),(3,.arr 3 T2 (([] : LI) ++ x_.1)),(4,.arr 40 T2 (([] : LI) ++ x_.2))],5⟩)],?_,?_⟩
 ·have q := hz2
  clear hz2
  unfold f19_j1 at q
  obtain ⟨g5_0,q⟩ := gE q
  obtain ⟨g5_1,q⟩ := gE q
  refine EI (.take 1 (.take 2 (.take 5 (.take 6 (.alt 0 (.alt 3 (.alt 4 (.alt 7 (.take 8 (.alt 9 (.alt 10 .done .done) .done)) (.alt 9 (.alt 7 (.take 8 (.alt 10 .done .done)) .done) .done)) (.alt 9 (.alt 4 (.alt 7 (.take 8 (.alt 10 .done .done)) .done) .done) .done)) (.alt 4 (.alt 3 (.alt 7 (.take 8 (.alt 9 (.alt 10 .done .done) .done)) (.alt 9 (.alt 7 (.take 8 (.alt 10 .done .done)) .done) .done)) (.alt 9 (.alt 3 (.alt 7 (.take 8 (.alt 10 .done .done)) .done) .done) .done)) (.alt 9 (.alt 3 (.alt 4 (.alt 7 (.take 8 (.alt 10 .done .done)) .done) .done) (.alt 4 (.alt 3 (.alt 7 (.take 8 (.alt 10 .done .done)) .done) .done) .done)) .done))) (.alt 4 (.alt 0 (.alt 3 (.alt 7 (.take 8 (.alt 9 (.alt 10 .done .done) .done)) (.alt 9 (.alt 7 (.take 8 (.alt 10 .done .done)) .done) .done)) (.alt 9 (.alt 3 (.alt 7 (.take 8 (.alt 10 .done .done)) .done) .done) .done)) (.alt 9 (.alt 0 (.alt 3 (.alt 7 (.take 8 (.alt 10 .done .done)) .done) .done) .done) .done)) (.alt 9 (.alt 0 (.alt 3 (.alt 4 (.alt 7 (.take 8 (.alt 10 .done .done)) .done) .done) (.alt 4 (.alt 3 (.alt 7 (.take 8 (.alt 10 .done .done)) .done) .done) .done)) (.alt 4 (.alt 0 (.alt 3 (.alt 7 (.take 8 (.alt 10 .done .done)) .done) .done) .done) .done)) .done))))))) (EI [] (EI [] (AI rfl ?_)))
  refine AI (AI (AI TV ?_) ?_) ?_
  ·refine AI (AI TV ?_) ?_
   ·refine OL (AI TV (OL (AI TV (OL (AI g5_0 (AI TV (OL (AI g5_1 (AI TV (OL ?_))))))))))
    cases sE q
    refine E4 [(0,some 0),(1,some 1),(2,some 3),(3,some 6),(4,some 7)] (AI rfl (AI (R2 TV) (R5 TV)))
   refine OL (AI (AI TV ?_) ?_)
   ·refine OL (AI TV (OL (AI g5_0 (AI TV (OL (AI g5_1 (AI TV (OL ?_))))))))
    cases sE q
    refine E4 [(0,some 0),(1,some 1),(2,some 3),(3,some 6),(4,some 7)] (AI rfl (AI (R2 TV) (R5 TV)))
   refine OL (AI g5_0 (AI TV (OL (AI TV (OL (AI g5_1 (AI TV (OL ?_))))))))
   cases sE q
   refine E4 [(0,some 0),(1,some 1),(2,some 3),(3,some 5),(4,some 7)] (AI rfl (AI (R2 TV) (R5 TV)))
  ·refine OL (AI (AI TV ?_) ?_)
   ·refine AI TV (OL (AI TV (OL (AI g5_0 (AI TV (OL (AI g5_1 (AI TV (OL ?_)))))))))
    cases sE q
    refine E4 [(0,some 0),(1,some 1),(2,some 4),(3,some 6),(4,some 7)] (AI rfl (AI (R2 TV) (R5 TV)))
   refine OL (AI (AI TV ?_) ?_)
   ·refine AI TV (OL (AI g5_0 (AI TV (OL (AI g5_1 (AI TV (OL ?_)))))))
    cases sE q
    refine E4 [(0,some 0),(1,some 1),(2,some 5),(3,some 6),(4,some 7)] (AI rfl (AI (R2 TV) (R5 TV)))
   refine OL (AI g5_0 (AI (AI TV ?_) ?_))
   ·refine AI TV (OL (AI g5_1 (AI TV (OL ?_))))
    cases sE q
    refine E4 [(0,some 0),(1,some 1),(2,some 6),(3,some 5),(4,some 7)] (AI rfl (AI (R2 TV) (R5 TV)))
   refine OL (AI g5_1 (AI TV (AI TV (OL ?_))))
   cases sE q
   refine E4 [(0,some 0),(1,some 1),(2,some 7),(3,some 5),(4,some 6)] (AI rfl (AI (R2 TV) (R5 TV)))
  refine OL (AI (AI (AI TV ?_) ?_) ?_)
  ·refine AI (AI TV ?_) ?_
   ·refine OL (AI TV (OL (AI g5_0 (AI TV (OL (AI g5_1 (AI TV (OL ?_))))))))
    cases sE q
    refine E4 [(0,some 0),(1,some 1),(2,some 4),(3,some 6),(4,some 7)] (AI rfl (AI (R2 TV) (R5 TV)))
   refine OL (AI g5_0 (AI TV (OL (AI TV (OL (AI g5_1 (AI TV (OL ?_))))))))
   cases sE q
   refine E4 [(0,some 0),(1,some 1),(2,some 4),(3,some 5),(4,some 7)] (AI rfl (AI (R2 TV) (R5 TV)))
  ·refine OL (AI (AI TV ?_) ?_)
   ·refine AI TV (OL (AI g5_0 (AI TV (OL (AI g5_1 (AI TV (OL ?_)))))))
    cases sE q
    refine E4 [(0,some 0),(1,some 1),(2,some 5),(3,some 6),(4,some 7)] (AI rfl (AI (R2 TV) (R5 TV)))
   refine OL (AI g5_0 (AI (AI TV ?_) ?_))
   ·refine AI TV (OL (AI g5_1 (AI TV (OL ?_))))
    cases sE q
    refine E4 [(0,some 0),(1,some 1),(2,some 6),(3,some 5),(4,some 7)] (AI rfl (AI (R2 TV) (R5 TV)))
   refine OL (AI g5_1 (AI TV (AI TV (OL ?_))))
   cases sE q
   refine E4 [(0,some 0),(1,some 1),(2,some 7),(3,some 5),(4,some 6)] (AI rfl (AI (R2 TV) (R5 TV)))
  refine OL (AI g5_0 (AI (AI TV ?_) ?_))
  ·refine AI TV (OL (AI TV (OL (AI g5_1 (AI TV (OL ?_))))))
   cases sE q
   refine E4 [(0,some 0),(1,some 1),(2,some 5),(3,some 4),(4,some 7)] (AI rfl (AI (R2 TV) (R5 TV)))
  refine OL (AI (AI TV ?_) ?_)
  ·refine AI TV (OL (AI g5_1 (AI TV (OL ?_))))
   cases sE q
   refine E4 [(0,some 0),(1,some 1),(2,some 6),(3,some 4),(4,some 7)] (AI rfl (AI (R2 TV) (R5 TV)))
  refine OL (AI g5_1 (AI TV (AI TV (OL ?_))))
  cases sE q
  refine E4 [(0,some 0),(1,some 1),(2,some 7),(3,some 4),(4,some 6)] (AI rfl (AI (R2 TV) (R5 TV)))
 refine AI (OL (EI (.take 0 (.take 1 (.take 2 (.take 3 (.take 4 (.take 5 (.take 6 (.alt 7 (.alt 8 (.take 9 (.take 10 (.alt 11 .done .done))) .done) .done)))))))) (EI [(11,[0])] (EI [] (AI rfl (AI TV (OL (AI TV (OL (gI q (fun q=>?_))))))))))) TV
 refine AI TV (OL (OL ?_))
 cases sE q
 refine AI rfl (E4 [(0,some 0),(2,some 6)] (R3 (AI TV (R2 TV))))
theorem C19_holds : HP C19 19 := hH Tryz.f19 (by kernel_rfl) rfl (fun x y q=>C19_vc x.1 x.2 y q)
theorem f19_in : InP 19 := inP (by kernel_rfl)
def f21 (t_l : NL) (out:Int) (want : LI) : Option (Int×Int×NL) :=
 bindF (f63 t_l out want) fun r1 =>
 bif (r1.1 != (0:Int)) then
 some ((0:Int),r1.1,r1.2)
 else
 bindF (f64 r1.2) fun r2 =>
 bindF (f66 r2.2 r2.1 (0:Int) want) fun r3 =>
 bindF (f65 r3.2.2.2 r3.2.1 r3.2.2.1 (3:Int) out r3.1 (0:Int)) fun r4 =>
 bindF (f65 r4.2.2.2 r4.2.1 r4.2.2.1 (11:Int) r4.1 (0:Int) (4:Int)) fun r5 =>
 bindF (f65 r5.2.2.2 r5.2.1 r5.2.2.1 (10:Int) r5.1 (0:Int) (0:Int)) fun r6 =>
 bindF (f67 r6.2.2.2 r6.2.1 r6.2.2.1 r6.1) fun r7 =>
 some (r7.1,r7.2.1,r7.2.2.2.2)
def C21 : Con where
 X := NL×Int×LI
 Y := Int×Int×NL
 e := 2
 args x := [P0 0 0,.dat T2 x.2.1,.dat T1 x.2.2]
 hin x := [(0,.cells [(.osl 1)]),(1,.arr 42 T0 x.1)]
 F x := f21 x.1 x.2.1 x.2.2
 ret y := [.dat T2 y.1,.dat T2 y.2.1]
 hout y := [(0,.cells [(.osl 2)]),(2,.arr 42 T0 y.2.2)]
 nout := 3
theorem C21_vc (t_l : NL) (out:Int) (want : LI) (y : Int×Int×NL) (q : f21 t_l out want = some y) : VE Tryz.f21 2 C21 (t_l,out,want) y := by
 unfold f21 at q
 refine OL (OL (OL ?_))
 obtain ⟨r1,hr1,q⟩ := bE q
 refine OL (AI f63_in (cV (cQ C63 (t_l,out,want) r1 I2 false C63_holds hr1 rfl rfl (R2 (AI NH (R2 (AJ (AI (R2 TV) (OL (cI q (fun q=>?_) (fun q=>?_)))))))))))
 ·cases sE q
  refine OL (AI rfl (E4 [(0,some 0),(2,some 1)] (R3 (AI TV (R2 TV)))))
 refine OL ?_
 obtain ⟨r2,hr2,q⟩ := bE q
 refine OL (AI f64_in (cV (cQ C64 r1.2 r2 I2 false C64_holds hr2 rfl rfl (AI NH (R2 (AJ (AI (R2 TV) (OL ?_))))))))
 obtain ⟨r3,hr3,q⟩ := bE q
 refine OL (AI f66_in (cV (cQ C66 (r2.2,r2.1,(0:Int),want) r3 [(0,some 6),(1,some 0),(2,some 1)] false C66_holds hr3 rfl rfl (AI rfl (AI NH (R2 (AJ (AI (R3 TV) ?_))))))))
 obtain ⟨r4,hr4,q⟩ := bE q
 refine OL (AI f65_in (cV (cQ C65 (r3.2.2.2,r3.2.1,r3.2.2.1,(3:Int),out,r3.1,(0:Int)) r4 [(0,some 6),(1,some 0),(2,some 10)] false C65_holds hr4 rfl rfl (R4 (AI NH (R2 (AJ (AI (R3 TV) (OL ?_)))))))))
 obtain ⟨r5,hr5,q⟩ := bE q
 refine OL (AI f65_in (cV (cQ C65 (r4.2.2.2,r4.2.1,r4.2.2.1,(11:Int),r4.1,(0:Int),(4:Int)) r5 [(0,some 6),(1,some 0),(2,some 14)] false C65_holds hr5 rfl rfl (R4 (AI NH (R2 (AJ (AI (R3 TV) ?_))))))))
 obtain ⟨r6,hr6,q⟩ := bE q
 refine OL (AI f65_in (cV (cQ C65 (r5.2.2.2,r5.2.1,r5.2.2.1,(10:Int),r5.1,(0:Int),(0:Int)) r6 [(0,some 6),(1,some 0),(2,some 18)] false C65_holds hr6 rfl rfl (R4 (AI NH (R2 (AJ (AI (R3 TV) ?_))))))))
 obtain ⟨r7,hr7,q⟩ := bE q
 refine OL (AI f67_in (cV (cQ C67 (r6.2.2.2,r6.2.1,r6.2.2.1,r6.1) r7 [(0,some 6),(1,some 0),(2,some 22)] false C67_holds hr7 rfl rfl (AI rfl (AI NH (R2 (AJ (AI (R3 TV) ?_))))))))
 cases sE q
 refine AI rfl (E4 [(0,some 0),(2,some 26)] (R3 (AI TV (R2 TV))))
theorem C21_holds : HP C21 21 := hH Tryz.f21 (by kernel_rfl) rfl (fun x y q=>C21_vc x.1 x.2.1 x.2.2 y q)
theorem f21_in : InP 21 := inP (by kernel_rfl)
def f22_j1 (class_:Int) (r1 : Bool×LI×LI×NL) : Option (Sum Unit Int) :=
 bif (!r1.1) then
 some (Sum.inr (1:Int))
 else
 bif ((List.length r1.2.1:Int) != (1:Int)) then
 some (Sum.inr (4:Int))
 else
 bif (decide (class_ < (0:Int))) then
 some (Sum.inr (4:Int))
 else
 bif (decide (class_ ≥ (List.length r1.2.2.1:Int))) then
 some (Sum.inr (4:Int))
 else
 some (Sum.inl ())
def f22 (t_l : NL) (out:Int) (class_:Int) : Option (Int×Int×NL) :=
 bindF (f58 t_l out) fun r1 =>
 bindF (f22_j1 class_ r1) fun z2 =>
 sumF z2 (fun z2a =>
 bindF (f68 r1.2.1 (0:Int)) fun r3 =>
 bindF (f69 ([(4294967296:Int)]) (List.length r1.2.2.1:Int)) fun r4 =>
 guardF (0 ≤ class_ ∧ class_ < (List.length r3.2.2:Int)) <|
 guardF (0 ≤ class_ ∧ class_ < (List.length r4:Int)) <|
 bindF (f64 r1.2.2.2) fun r5 =>
 bindF (f66 r5.2 r5.1 (0:Int) (List.set r3.2.2 (Int.toNat class_) (-4294967296:Int))) fun r6 =>
 bindF (f66 r6.2.2.2 r6.2.1 r6.2.2.1 (List.set r4 (Int.toNat class_) (0:Int))) fun r7 =>
 bindF (f65 r7.2.2.2 r7.2.1 r7.2.2.1 (4:Int) out r6.1 (0:Int)) fun r8 =>
 bindF (f65 r8.2.2.2 r8.2.1 r8.2.2.1 (9:Int) r8.1 (0:Int) (0:Int)) fun r9 =>
 bindF (f65 r9.2.2.2 r9.2.1 r9.2.2.1 (2:Int) out r9.1 (0:Int)) fun r10 =>
 bindF (f65 r10.2.2.2 r10.2.1 r10.2.2.1 (2:Int) r10.1 r7.1 (0:Int)) fun r11 =>
 bindF (f65 r11.2.2.2 r11.2.1 r11.2.2.1 (11:Int) r11.1 (0:Int) (1:Int)) fun r12 =>
 bindF (f65 r12.2.2.2 r12.2.1 r12.2.2.1 (4:Int) r12.1 r7.1 (0:Int)) fun r13 =>
 bindF (f65 r13.2.2.2 r13.2.1 r13.2.2.1 (9:Int) r13.1 (0:Int) (0:Int)) fun r14 =>
 bindF (f67 r14.2.2.2 r14.2.1 r14.2.2.1 r14.1) fun r15 =>
 some (r15.1,r15.2.1,r15.2.2.2.2)) (fun z2b =>
 some ((0:Int),z2b,r1.2.2.2))
def C22 : Con where
 X := NL×Int×Int
 Y := Int×Int×NL
 e := 2
 args x := [P0 0 0,.dat T2 x.2.1,.dat T2 x.2.2]
 hin x := [(0,.cells [(.osl 1)]),(1,.arr 42 T0 x.1)]
 F x := f22 x.1 x.2.1 x.2.2
 ret y := [.dat T2 y.1,.dat T2 y.2.1]
 hout y := [(0,.cells [(.osl 2)]),(2,.arr 42 T0 y.2.2)]
 nout := 3
theorem C22_vc (t_l : NL) (out:Int) (class_:Int) (y : Int×Int×NL) (q : f22 t_l out class_ = some y) : VE Tryz.f22 2 C22 (t_l,out,class_) y := by
 unfold f22 at q
 refine OL (OL ?_)
 obtain ⟨r1,hr1,q⟩ := bE q
 refine OL (AI f58_in (cV (cQ C58 (t_l,out) r1 I2 false C58_holds hr1 rfl rfl (AI rfl (AI NH (R2 (AJ (AI (R2 TV) (OL ?_)))))))))
 obtain ⟨z2,hz2,q⟩ := bE q
 refine OQ ⟨Sum.elim (fun z2a=>[(0,⟨[(0,P0 0 0),(1,.dat T2 out),(2,.dat T2 class_),(8,P0 2 0)],[(0,.cells [(.osl 1)]),(1,.arr 42 T0 r1.2.2.2),(2,.cells [(.osl 3),(.osl 4)]),(3,.arr 3 T2 r1.2.1),(4,.arr 40 T2 r1.2.2.1)],5⟩)]) (fun z2b=>[(1,⟨[(6,D0 0),(7,.dat T2 z2b)],[(0,.cells [(.osl 1)]),(1,.arr 42 T0 r1.2.2.2)],2⟩)]) z2,?_,?_⟩
 ·have q := hz2
  clear hz2
  unfold f22_j1 at q
  refine OL (cI q (fun q=>?_) (fun q=>?_))
  ·cases sE q
   refine OL (E4 I2 (R3 (AI TV (R2 TV))))
  refine OL (cN q (fun q=>?_) (fun q=>?_))
  ·refine gY (cF (cN q (fun q=>?_) (fun q=>?_)))
   ·refine gY (gY (gY (gY (cF (cI q (fun q=>?_) (fun q=>?_))))))
    ·cases sE q
     refine OL (E4 I2 (R3 (AI TV (R2 TV))))
    cases sE q
    refine E4 [(0,some 0),(1,some 1),(2,some 6),(3,some 4),(4,some 5)] (R3 (AI (R2 TV) (R5 TV)))
   refine gN (gN (gN (gN (cT (cT (OL ?_))))))
   cases sE q
   refine E4 I2 (R3 (AI TV (R2 TV)))
  refine gN (cT (gN (gN (gN (gN (gN (cT (cT (OL ?_)))))))))
  cases sE q
  refine E4 I2 (R3 (AI TV (R2 TV)))
 rcases z2 with z2a | z2b
 ·dsimp only [sumF] at q
  refine AI (OL ?_) TV
  obtain ⟨r3,hr3,q⟩ := bE q
  refine OL (AI f68_in (cV (cQ C68 (r1.2.1,(0:Int)) r3 [] true C68_holds hr3 rfl rfl (R2 (AI (fun _=>rfl) (R2 (AI TV (AI TV (OL (OL (OL ?_)))))))))))
  obtain ⟨r4,hr4,q⟩ := bE q
  refine OL (AI f69_in (cV (cQ C69 ([(4294967296:Int)],(List.length r1.2.2.1:Int)) r4 [] true C69_holds hr4 rfl rfl (R2 (AI (fun _=>rfl) (R2 (AI TV (AI TV (OL (gI q (fun q=>?_)))))))))))
  refine OL (gI q (fun q=>?_))
  refine OL (OL ?_)
  obtain ⟨r5,hr5,q⟩ := bE q
  refine OL (AI f64_in (cV (cQ C64 r1.2.2.2 r5 I2 false C64_holds hr5 rfl rfl (AI NH (R2 (AJ (AI (R2 TV) (OL ?_))))))))
  obtain ⟨r6,hr6,q⟩ := bE q
  have hr6 : C66.F (r5.2,r5.1,(0:Int),(List.set r3.2.2 (Int.toNat class_) (-4294967296:Int))) = some r6 := hr6
  refine OL (AI f66_in (cV (cQ C66 _ r6 [(0,some 12),(1,some 0),(2,some 1)] false C66_holds hr6 rfl rfl (AI rfl (AI NH (R2 (AJ (AI (R3 TV) (OL ?_)))))))))
  obtain ⟨r7,hr7,q⟩ := bE q
  refine OL (AI f66_in (cV (cQ C66 (r6.2.2.2,r6.2.1,r6.2.2.1,(List.set r4 (Int.toNat class_) (0:Int))) r7 [(0,some 12),(1,some 0),(2,some 16)] false C66_holds hr7 rfl rfl (AI rfl (AI NH (R2 (AJ (AI (R3 TV) (OL ?_)))))))))
  obtain ⟨r8,hr8,q⟩ := bE q
  refine OL (AI f65_in (cV (cQ C65 (r7.2.2.2,r7.2.1,r7.2.2.1,(4:Int),out,r6.1,(0:Int)) r8 [(0,some 12),(1,some 0),(2,some 20)] false C65_holds hr8 rfl rfl (R4 (AI NH (R2 (AJ (AI (R3 TV) ?_))))))))
  obtain ⟨r9,hr9,q⟩ := bE q
  refine OL (AI f65_in (cV (cQ C65 (r8.2.2.2,r8.2.1,r8.2.2.1,(9:Int),r8.1,(0:Int),(0:Int)) r9 [(0,some 12),(1,some 0),(2,some 24)] false C65_holds hr9 rfl rfl (R4 (AI NH (R2 (AJ (AI (R3 TV) (OL ?_)))))))))
  obtain ⟨r10,hr10,q⟩ := bE q
  refine OL (AI f65_in (cV (cQ C65 (r9.2.2.2,r9.2.1,r9.2.2.1,(2:Int),out,r9.1,(0:Int)) r10 [(0,some 12),(1,some 0),(2,some 28)] false C65_holds hr10 rfl rfl (R4 (AI NH (R2 (AJ (AI (R3 TV) ?_))))))))
  obtain ⟨r11,hr11,q⟩ := bE q
  refine OL (AI f65_in (cV (cQ C65 (r10.2.2.2,r10.2.1,r10.2.2.1,(2:Int),r10.1,r7.1,(0:Int)) r11 [(0,some 12),(1,some 0),(2,some 32)] false C65_holds hr11 rfl rfl (R4 (AI NH (R2 (AJ (AI (R3 TV) (OL ?_)))))))))
  obtain ⟨r12,hr12,q⟩ := bE q
  refine OL (AI f65_in (cV (cQ C65 (r11.2.2.2,r11.2.1,r11.2.2.1,(11:Int),r11.1,(0:Int),(1:Int)) r12 [(0,some 12),(1,some 0),(2,some 36)] false C65_holds hr12 rfl rfl (R4 (AI NH (R2 (AJ (AI (R3 TV) ?_))))))))
  obtain ⟨r13,hr13,q⟩ := bE q
  refine OL (AI f65_in (cV (cQ C65 (r12.2.2.2,r12.2.1,r12.2.2.1,(4:Int),r12.1,r7.1,(0:Int)) r13 [(0,some 12),(1,some 0),(2,some 40)] false C65_holds hr13 rfl rfl (R4 (AI NH (R2 (AJ (AI (R3 TV) ?_))))))))
  obtain ⟨r14,hr14,q⟩ := bE q
  refine OL (AI f65_in (cV (cQ C65 (r13.2.2.2,r13.2.1,r13.2.2.1,(9:Int),r13.1,(0:Int),(0:Int)) r14 [(0,some 12),(1,some 0),(2,some 44)] false C65_holds hr14 rfl rfl (R4 (AI NH (R2 (AJ (AI (R3 TV) ?_))))))))
  obtain ⟨r15,hr15,q⟩ := bE q
  refine OL (AI f67_in (cV (cQ C67 (r14.2.2.2,r14.2.1,r14.2.2.1,r14.1) r15 [(0,some 12),(1,some 0),(2,some 48)] false C67_holds hr15 rfl rfl (AI rfl (AI NH (R2 (AJ (AI (R3 TV) ?_))))))))
  cases sE q
  refine AI rfl (E4 [(0,some 0),(2,some 52)] (R3 (AI TV (R2 TV))))
 dsimp only [sumF] at q
 refine AI ?_ TV
 cases sE q
 refine AI rfl (E4 [(0,some 0),(2,some 1)] (R3 (AI TV (R2 TV))))
theorem C22_holds : HP C22 22 := hH Tryz.f22 (by kernel_rfl) rfl (fun x y q=>C22_vc x.1 x.2.1 x.2.2 y q)
theorem f22_in : InP 22 := inP (by kernel_rfl)
def f107 (op:Int) : Option Bool :=
 bif (op == (2:Int)) then
 some true
 else
 bif (op == (3:Int)) then
 some true
 else
 bif (op == (4:Int)) then
 some true
 else
 bif (op == (6:Int)) then
 some true
 else
 some (op == (12:Int))
def C107 : Con where
 X := Int
 Y := Bool
 e := 0
 args x := [.dat T2 x]
 hin x := []
 F x := f107 x
 ret y := [.dat .bool y]
 hout y := []
 nout := 0
theorem C107_vc (op:Int) (y : Bool) (q : f107 op = some y) : VC Tryz.f107 C107 op y := by
 unfold f107 at q
 refine OL (OL (cN q (fun q=>?_) (fun q=>?_)))
 ·refine gY (cF (cN q (fun q=>?_) (fun q=>?_)))
  ·refine gY (cF (cN q (fun q=>?_) (fun q=>?_)))
   ·refine gY (cF (cN q (fun q=>?_) (fun q=>?_)))
    ·refine gY (cF ?_)
     cases sE q
     refine AI rfl (E4 [] (R2 (AI TV TV)))
    refine gN (cT ?_)
    cases sE q
    refine AI rfl (E4 [] (R2 (AI TV TV)))
   refine gN (cT (gN (gN (cT ?_))))
   cases sE q
   refine AI rfl (E4 [] (R2 (AI TV TV)))
  refine gN (cT (gN (gN (cT (gN (gN (cT ?_)))))))
  cases sE q
  refine AI rfl (E4 [] (R2 (AI TV TV)))
 refine gN (cT (gN (gN (cT (gN (gN (cT (gN (gN (cT ?_))))))))))
 cases sE q
 refine AI rfl (E4 [] (R2 (AI TV TV)))
theorem C107_holds : HP C107 107 := hH Tryz.f107 (by kernel_rfl) rfl (fun x y q=>C107_vc x y q)
theorem f107_in : InP 107 := inP (by kernel_rfl)
def f108 (op:Int) : Option Bool :=
 bif (op == (5:Int)) then
 some true
 else
 bif (op == (8:Int)) then
 some true
 else
 bif (op == (11:Int)) then
 some true
 else
 bif (op == (12:Int)) then
 some true
 else
 some (op == (13:Int))
def C108 : Con where
 X := Int
 Y := Bool
 e := 0
 args x := [.dat T2 x]
 hin x := []
 F x := f108 x
 ret y := [.dat .bool y]
 hout y := []
 nout := 0
theorem C108_vc (op:Int) (y : Bool) (q : f108 op = some y) : VC Tryz.f108 C108 op y := by
 unfold f108 at q
 refine OL (OL (cN q (fun q=>?_) (fun q=>?_)))
 ·refine gY (cF (cN q (fun q=>?_) (fun q=>?_)))
  ·refine gY (cF (cN q (fun q=>?_) (fun q=>?_)))
   ·refine gY (cF (cN q (fun q=>?_) (fun q=>?_)))
    ·refine gY (cF ?_)
     cases sE q
     refine AI rfl (E4 [] (R2 (AI TV TV)))
    refine gN (cT ?_)
    cases sE q
    refine AI rfl (E4 [] (R2 (AI TV TV)))
   refine gN (cT (gN (gN (cT ?_))))
   cases sE q
   refine AI rfl (E4 [] (R2 (AI TV TV)))
  refine gN (cT (gN (gN (cT (gN (gN (cT ?_)))))))
  cases sE q
  refine AI rfl (E4 [] (R2 (AI TV TV)))
 refine gN (cT (gN (gN (cT (gN (gN (cT (gN (gN (cT ?_))))))))))
 cases sE q
 refine AI rfl (E4 [] (R2 (AI TV TV)))
theorem C108_holds : HP C108 108 := hH Tryz.f108 (by kernel_rfl) rfl (fun x y q=>C108_vc x y q)
theorem f108_in : InP 108 := inP (by kernel_rfl)
def f127_j1 (a : LI) (b : LI) : Option (Sum Unit Unit) :=
 bindF (f102 a) fun r4 =>
 bif (!r4) then
 some (Sum.inr ())
 else
 bindF (f102 b) fun r5 =>
 bif (!r5) then
 some (Sum.inr ())
 else
 some (Sum.inl ())
def f127_j2 (a : LI) (b : LI) : Option Int :=
 bif (decide ((List.length b:Int) > (List.length a:Int))) then
 some (List.length b:Int)
 else
 some (List.length a:Int)
def f127_j12 (a : LI) (i:Int) : Option Int :=
 bif (decide (i ≤ (List.length a:Int))) then
 guardF (0 ≤ (i64.wrap ((List.length a:Int) - i)) ∧ (i64.wrap ((List.length a:Int) - i)) < (List.length a:Int)) <|
 some (rd (0:Int) a (i64.wrap ((List.length a:Int) - i)))
 else
 some (1:Int)
def f127_j13 (b : LI) (i:Int) : Option Int :=
 bif (decide (i ≤ (List.length b:Int))) then
 guardF (0 ≤ (i64.wrap ((List.length b:Int) - i)) ∧ (i64.wrap ((List.length b:Int) - i)) < (List.length b:Int)) <|
 some (rd (0:Int) b (i64.wrap ((List.length b:Int) - i)))
 else
 some (1:Int)
def f127_j14 (z16:Int) (z17:Int) : Option (Sum Unit Unit) :=
 bif (z16 != z17) then
 bif (z16 != (1:Int)) then
 bif (z17 != (1:Int)) then
 some (Sum.inr ())
 else
 some (Sum.inl ())
 else
 some (Sum.inl ())
 else
 some (Sum.inl ())
def f127_j15 (z16:Int) (z17:Int) : Option Int :=
 bif (decide (z17 > z16)) then
 some z17
 else
 some z16
def f127_l11 (a : LI) (b : LI) (z6:Int) (go : (Int×LI) → Option (Sum Unit LI)) (i:Int) (l0 : LI) : Option (Sum Unit LI) :=
 bif (decide (i ≤ z6)) then
 bindF (f127_j12 a i) fun z16 =>
 bindF (f127_j13 b i) fun z17 =>
 bindF (f127_j14 z16 z17) fun z18 =>
 sumF z18 (fun z18a =>
 bindF (f127_j15 z16 z17) fun z19 =>
 guardF (0 ≤ (i64.wrap (z6 - i)) ∧ (i64.wrap (z6 - i)) < (List.length l0:Int)) <|
 go ((i64.wrap (i + (1:Int))),(List.set l0 (Int.toNat (i64.wrap (z6 - i))) z19))) (fun z18b =>
 some (Sum.inl ()))
 else
 some (Sum.inr l0)
def f127 (a : LI) (b : LI) : Option (Int×LI) :=
 bindF (f127_j1 a b) fun z3 =>
 sumF z3 (fun z3a =>
 bindF (f127_j2 a b) fun z6 =>
 guardF (0 ≤ z6 ∧ z6 ≤ z6 ∧ Int.toNat z6 * 8 ≤ 140737488355328) <|
 bindF (loopF (fun go x=>f127_l11 a b z6 go x.1 x.2) fuelN ((1:Int),(List.replicate (Int.toNat z6) (0:Int)))) fun z15 =>
 sumF z15 (fun z15a =>
 some ((4:Int),[])) (fun z15b =>
 bindF (f102 z15b) fun r20 =>
 bif (!r20) then
 some ((2:Int),[])
 else
 some ((0:Int),z15b))) (fun z3b =>
 some ((1:Int),[]))
def C127 : Con where
 X := LI×LI
 Y := Int×LI
 e := 0
 args x := [.dat T1 x.1,.dat T1 x.2]
 hin x := []
 F x := f127 x.1 x.2
 ret y := [O0 0,.dat T2 y.1]
 hout y := [(0,.arr 3 T2 y.2)]
 nout := 1
theorem C127_vc (a : LI) (b : LI) (y : Int×LI) (q : f127 a b = some y) : VC Tryz.f127 C127 (a,b) y := by
 unfold f127 at q
 refine OL ?_
 obtain ⟨z3,hz3,q⟩ := bE q
 refine OQ ⟨Sum.elim (fun z3a=>[(0,⟨[(0,.dat T1 a),(1,.dat T1 b)],[],0⟩)]) (fun z3b=>[(1,⟨[(4,.raw false [N0]),(5,D0 1)],[],0⟩)]) z3,?_,?_⟩
 ·have q := hz3
  clear hz3
  unfold f127_j1 at q
  refine OL ?_
  obtain ⟨r4,hr4,q⟩ := bE q
  refine OL (AI f102_in (cV (cQ C102 a r4 [] false C102_holds hr4 rfl rfl (AI rfl (K0 (cN q (fun q=>?_) (fun q=>?_)))))))
  ·refine gY ?_
   obtain ⟨r5,hr5,q⟩ := bE q
   refine OL (AI f102_in (cV (cQ C102 b r5 [] false C102_holds hr5 rfl rfl (AI rfl (K0 (gY (cF (cI q (fun q=>?_) (fun q=>?_)))))))))
   ·cases sE q
    refine OL (E4 [] (R2 (AJ TV)))
   cases sE q
   refine E4 [] (R3 (AI TV TV))
  refine gN (gN (cT (cT (OL ?_))))
  cases sE q
  refine E4 [] (R2 (AJ TV))
 rcases z3 with z3a | z3b
 ·dsimp only [sumF] at q
  refine AI (OL ?_) TV
  obtain ⟨z6,hz6,q⟩ := bE q
  refine OQ ⟨[(0,⟨[(0,.dat T1 a),(1,.dat T1 b),(6,.dat T2 z6)],[],0⟩)],?_,?_⟩
  ·have q := hz6
   clear hz6
   unfold f127_j2 at q
   refine OL (cI q (fun q=>?_) (fun q=>?_))
   ·cases sE q
    refine E4 [] (R4 (AI TV TV))
   cases sE q
   refine E4 [] (R4 (AI TV TV))
  refine AI (OL (gI q (fun q=>?_))) TV
  refine OL (OL ?_)
  obtain ⟨z15,hz15,q⟩ := bE q
  refine lI (Int×LI) (Sum Unit LI) (fun x=>⟨[(0,.dat T1 a),(1,.dat T1 b),(6,.dat T2 z6),(7,O0 0),(8,.dat T2 x.1)],[(0,.arr 3 T2 x.2)],1⟩) (fun z=>Sum.elim (fun za=>[(1,⟨[(4,.raw false [N0]),(5,D0 4)],[],0⟩)]) (fun zb=>[(2,⟨[(7,O0 0)],[(0,.arr 3 T2 zb)],1⟩)]) z) (loopF (fun go x=>f127_l11 a b z6 go x.1 x.2)) fuelN ((1:Int),(List.replicate (Int.toNat z6) (0:Int))) z15 (AI hz15 (AI (E4 [(0,some 0)] (R5 (AJ (AI rfl TV)))) (AI (fun _ _ h=>lZ h) (AI (fun m=>curI (fun i=>fun l0 z q=>?_)) ?_))))
  ·have q : f127_l11 a b z6 (loopF (fun go x=>f127_l11 a b z6 go x.1 x.2) m) i l0 = some z := q
   unfold f127_l11 at q
   refine OL (OL (cI q (fun q=>?_) (fun q=>?_)))
   ·refine OL (OL ?_)
    obtain ⟨z16,hz16,q⟩ := bE q
    refine OQ ⟨[(0,⟨[(0,.dat T1 a),(1,.dat T1 b),(6,.dat T2 z6),(7,O0 0),(8,.dat T2 i),(9,.dat T2 z16),(10,D0 1)],[(0,.arr 3 T2 l0)],1⟩)],?_,?_⟩
    ·have q := hz16
     clear hz16
     unfold f127_j12 at q
     refine OL (cI q (fun q=>?_) (fun q=>?_))
     ·refine gI q (fun q=>?_)
      cases sE q
      refine E4 [(0,some 0)] (R7 (AJ (AI rfl TV)))
     cases sE q
     refine E4 [(0,some 0)] (R7 (AJ (AI rfl TV)))
    refine AI ?_ TV
    obtain ⟨z17,hz17,q⟩ := bE q
    refine OQ ⟨[(0,⟨[(0,.dat T1 a),(1,.dat T1 b),(6,.dat T2 z6),(7,O0 0),(8,.dat T2 i),(9,.dat T2 z16),(10,.dat T2 z17)],[(0,.arr 3 T2 l0)],1⟩)],?_,?_⟩
    ·have q := hz17
     clear hz17
     unfold f127_j13 at q
     refine OL (cI q (fun q=>?_) (fun q=>?_))
     ·refine gI q (fun q=>?_)
      cases sE q
      refine E4 [(0,some 0)] (R7 (AJ (AI rfl TV)))
     cases sE q
     refine E4 [(0,some 0)] (R7 (AJ (AI rfl TV)))
    refine AI ?_ TV
    obtain ⟨z18,hz18,q⟩ := bE q
    refine OQ ⟨Sum.elim (fun z18a=>[(0,⟨[(0,.dat T1 a),(1,.dat T1 b),(6,.dat T2 z6),(7,O0 0),(8,.dat T2 i),(9,.dat T2 z16),(10,.dat T2 z17)],[(0,.arr 3 T2 l0)],1⟩)]) (fun z18b=>[(1,⟨[(4,.raw false [N0]),(5,D0 4)],[],0⟩)]) z18,?_,?_⟩
    ·have q := hz18
     clear hz18
     unfold f127_j14 at q
     refine OL (cI q (fun q=>?_) (fun q=>?_))
     ·refine gX (cT (cI q (fun q=>?_) (fun q=>?_)))
      ·refine gX (cT (cI q (fun q=>?_) (fun q=>?_)))
       ·cases sE q
        refine OL (E4 [] (R2 (AJ TV)))
       cases sE q
       refine E4 [(0,some 0)] (R7 (AJ (AI rfl TV)))
      refine gM (cF (cF ?_))
      cases sE q
      refine E4 [(0,some 0)] (R7 (AJ (AI rfl TV)))
     refine gM (cF (gM (gM (cF (cF ?_)))))
     cases sE q
     refine E4 [(0,some 0)] (R7 (AJ (AI rfl TV)))
    rcases z18 with z18a | z18b
    ·dsimp only [sumF] at q
     refine AI ?_ TV
     obtain ⟨z19,hz19,q⟩ := bE q
     refine OQ ⟨[(0,⟨[(0,.dat T1 a),(1,.dat T1 b),(6,.dat T2 z6),(7,O0 0),(8,.dat T2 i),(9,.dat T2 z19)],[(0,.arr 3 T2 l0)],1⟩)],?_,?_⟩
     ·have q := hz19
      clear hz19
      unfold f127_j15 at q
      refine OL (cI q (fun q=>?_) (fun q=>?_))
      ·cases sE q
       refine E4 [(0,some 0)] (R6 (AJ (AI rfl TV)))
      cases sE q
      refine E4 [(0,some 0)] (R6 (AJ (AI rfl TV)))
     refine AI (gI q (fun q=>?_)) TV
     refine OL (EI ((i64.wrap (i + (1:Int))),(List.set l0 (Int.toNat (i64.wrap (z6 - i))) z19)) (AI q (E4 [(0,some 0)] (R5 (AJ (AI rfl TV))))))
    dsimp only [sumF] at q
    refine AI ?_ TV
    cases sE q
    refine E4 [] (R2 (AJ TV))
   cases sE q
   refine E4 [(0,some 0)] (AI rfl (AJ (AI rfl TV)))
  rcases z15 with z15a | z15b
  ·dsimp only [sumF] at q
   refine AI ?_ TV
   cases sE q
   refine AI rfl (E4 [(0,none)] (R2 (AJ (AI rfl TV))))
  dsimp only [sumF] at q
  refine AI (OL (OL ?_)) TV
  obtain ⟨r20,hr20,q⟩ := bE q
  refine OL (AI f102_in (cV (cQ C102 z15b r20 [] true C102_holds hr20 rfl rfl (AI rfl (AI (fun _=>rfl) (R2 (AI TV (AI TV (cI q (fun q=>?_) (fun q=>?_))))))))))
  ·cases sE q
   refine OL (AI rfl (E4 [(0,none)] (R2 (AJ (AI rfl TV)))))
  cases sE q
  refine OL (AI rfl (E4 [(0,some 0)] (R2 (AJ (AI rfl TV)))))
 dsimp only [sumF] at q
 refine AI ?_ TV
 cases sE q
 refine AI rfl (E4 [(0,none)] (R2 (AJ (AI rfl TV))))
theorem C127_holds : HP C127 127 := hH Tryz.f127 (by kernel_rfl) rfl (fun x y q=>C127_vc x.1 x.2 y q)
theorem f127_in : InP 127 := inP (by kernel_rfl)
def f71_l1 (v:Int) (go : (Int×LI) → Option LI) (i:Int) (l3 : LI) : Option LI :=
 bif (decide (i < (List.length l3:Int))) then
 guardF (0 ≤ i ∧ i < (List.length l3:Int)) <|
 go ((i64.wrap (i + (1:Int))),(List.set l3 (Int.toNat i) v))
 else
 some l3
def f71 (d : LI) (v:Int) : Option (LI×LI) :=
 guardF ((List.length ([] : LI) + List.length d) * 8 ≤ 140737488355328) <|
 bindF (f103 d) fun r1 =>
 guardF (0 ≤ r1 ∧ r1 ≤ r1 ∧ Int.toNat r1 * 8 ≤ 140737488355328) <|
 bindF (loopF (fun go x=>f71_l1 v go x.1 x.2) fuelN ((0:Int),(List.replicate (Int.toNat r1) (0:Int)))) fun z2 =>
 some ((([] : LI) ++ d),z2)
def C71 : Con where
 X := LI×Int
 Y := LI×LI
 e := 0
 args x := [.dat T1 x.1,.dat T2 x.2]
 hin x := []
 F x := f71 x.1 x.2
 ret y := [.raw true [(.osl 0),(.osl 1)]]
 hout y := [(0,.arr 3 T2 y.1),(1,.arr 40 T2 y.2)]
 nout := 2
theorem C71_vc (d : LI) (v:Int) (y : LI×LI) (q : f71 d v = some y) : VC Tryz.f71 C71 (d,v) y := by
 unfold f71 at q
 refine OL (OL (OL (OL (gI q (fun q=>?_)))))
 obtain ⟨r1,hr1,q⟩ := bE q
 refine OL (AI f103_in (cV (cQ C103 d r1 [] false C103_holds hr1 rfl rfl (AI rfl (K0 (gI q (fun q=>?_)))))))
 refine OL (OL (OL ?_))
 obtain ⟨z2,hz2,q⟩ := bE q
 refine lI (Int×LI) LI (fun x=>⟨[(1,.dat T2 v),(4,P0 0 0),(5,P0 1 0),(6,.dat T2 x.1)],[(0,.cells [N0,N0]),(1,.cells [(.osl 2),(.osl 3)]),(2,.arr 3 T2 (([] : LI) ++ d)),(3,.arr 40 T2 x.2)],4⟩) (fun z=>[(2,⟨[(4,P0 0 0),(5,P0 1 0)],[(0,.cells [N0,N0]),(1,.cells [(.osl 2),(.osl 3)]),(2,.arr 3 T2 (([] : LI) ++ d)),(3,.arr 40 T2 z)],4⟩)]) (loopF (fun go x=>f71_l1 v go x.1 x.2)) fuelN ((0:Int),(List.replicate (Int.toNat r1) (0:Int))) z2 (AI hz2 (AI (E4 [(0,some 0),(1,some 4),(2,some 2),(3,some 3)] (R3 (AI (R2 TV) (R4 TV)))) (AI (fun _ _ h=>lZ h) (AI (fun m=>curI (fun i=>fun l3 z q=>?_)) ?_))))
 ·have q : f71_l1 v (loopF (fun go x=>f71_l1 v go x.1 x.2) m) i l3 = some z := q
  unfold f71_l1 at q
  refine OL (OL (cI q (fun q=>?_) (fun q=>?_)))
  ·refine OL (gI q (fun q=>?_))
   refine OL (EI ((i64.wrap (i + (1:Int))),(List.set l3 (Int.toNat i) v)) (AI q (E4 I4 (R3 (AI (R2 TV) (R4 TV))))))
  cases sE q
  refine E4 I4 (AI rfl (AI (R2 TV) (R4 TV)))
 refine AI (OL (OL ?_)) TV
 cases sE q
 refine AI rfl (E4 [(0,some 2),(1,some 3)] (AI rfl (AJ (R2 TV))))
theorem C71_holds : HP C71 71 := hH Tryz.f71 (by kernel_rfl) rfl (fun x y q=>C71_vc x.1 x.2 y q)
theorem f71_in : InP 71 := inP (by kernel_rfl)
def f73_l1 (a : LI) (b : LI) (go : Int → Option (Sum Unit Unit)) (i:Int) : Option (Sum Unit Unit) :=
 bif (decide (i < (List.length a:Int))) then
 guardF (0 ≤ i ∧ i < (List.length a:Int)) <|
 guardF (0 ≤ i ∧ i < (List.length b:Int)) <|
 bif ((rd (0:Int) a i) != (rd (0:Int) b i)) then
 some (Sum.inl ())
 else
 go (i64.wrap (i + (1:Int)))
 else
 some (Sum.inr ())
def f73 (a : LI) (b : LI) : Option Bool :=
 bif ((List.length a:Int) != (List.length b:Int)) then
 some false
 else
 bindF (loopF (fun go x=>f73_l1 a b go x) fuelN (0:Int)) fun z1 =>
 sumF z1 (fun z1a =>
 some false) (fun z1b =>
 some true)
def C73 : Con where
 X := LI×LI
 Y := Bool
 e := 0
 args x := [.dat T1 x.1,.dat T1 x.2]
 hin x := []
 F x := f73 x.1 x.2
 ret y := [.dat .bool y]
 hout y := []
 nout := 0
theorem C73_vc (a : LI) (b : LI) (y : Bool) (q : f73 a b = some y) : VC Tryz.f73 C73 (a,b) y := by
 unfold f73 at q
 refine OL (OL (OL (cI q (fun q=>?_) (fun q=>?_))))
 ·cases sE q
  refine OL (AI rfl (E4 [] (R2 (AI TV TV))))
 refine OL (OL ?_)
 obtain ⟨z1,hz1,q⟩ := bE q
 refine lI Int (Sum Unit Unit) (fun x=>⟨[(0,.dat T1 a),(1,.dat T1 b),(5,.dat T2 x)],[],0⟩) (fun z=>Sum.elim (fun za=>[(1,⟨[(4,.dat .bool false)],[],0⟩)]) (fun zb=>[(2,⟨[],[],0⟩)]) z) (loopF (fun go x=>f73_l1 a b go x)) fuelN (0:Int) z1 (AI hz1 (AI (E4 [] (R4 (AI TV TV))) (AI (fun _ _ h=>lZ h) (AI (fun m=>fun i z q=>?_) ?_))))
 ·have q : f73_l1 a b (loopF (fun go x=>f73_l1 a b go x) m) i = some z := q
  unfold f73_l1 at q
  refine OL (OL (cI q (fun q=>?_) (fun q=>?_)))
  ·refine OL (OL (EI (.take 0 (.take 1 (.take 2 (.take 3 (.take 4 (.take 5 (.take 6 (.take 7 (.take 8 .done))))))))) (EI [] (EI [] (AI rfl (gI q (fun q=>?_)))))))
   refine gI q (fun q=>?_)
   refine cI q (fun q=>?_) (fun q=>?_)
   ·cases sE q
    refine OL (E4 [] (R2 (AI TV TV)))
   refine EI (i64.wrap (i + (1:Int))) (AI q (E4 [] (R4 (AI TV TV))))
  cases sE q
  refine E4 [] (AI rfl (AI TV TV))
 rcases z1 with z1a | z1b
 ·dsimp only [sumF] at q
  refine AI ?_ TV
  cases sE q
  refine AI rfl (E4 [] (R2 (AI TV TV)))
 dsimp only [sumF] at q
 refine AI (OL ?_) TV
 cases sE q
 refine AI rfl (E4 [] (R2 (AI TV TV)))
theorem C73_holds : HP C73 73 := hH Tryz.f73 (by kernel_rfl) rfl (fun x y q=>C73_vc x.1 x.2 y q)
theorem f73_in : InP 73 := inP (by kernel_rfl)
def f118_j1 (d : LI) (at_:Int) : Option (Sum Unit Unit) :=
 bindF (f102 d) fun r4 =>
 bif (!r4) then
 some (Sum.inr ())
 else
 bif (decide (at_ < (0:Int))) then
 some (Sum.inr ())
 else
 bindF (f103 d) fun r5 =>
 bif (decide (at_ ≥ r5)) then
 some (Sum.inr ())
 else
 some (Sum.inl ())
def f118_l2 (d : LI) (go : (Int×Int×LI) → Option LI) (at__2:Int) (i:Int) (l0 : LI) : Option LI :=
 bif (decide (i ≥ (0:Int))) then
 guardF (0 ≤ i ∧ i < (List.length d:Int)) <|
 guardF ((rd (0:Int) d i) ≠ 0) <|
 guardF (0 ≤ i ∧ i < (List.length l0:Int)) <|
 guardF (0 ≤ i ∧ i < (List.length d:Int)) <|
 guardF ((rd (0:Int) d i) ≠ 0) <|
 go ((i64.wrap (Int.tdiv at__2 (rd (0:Int) d i))),(i64.wrap (i - (1:Int))),(List.set l0 (Int.toNat i) (Int.tmod at__2 (rd (0:Int) d i))))
 else
 some l0
def f118 (d : LI) (at_:Int) : Option (Bool×LI) :=
 bindF (f118_j1 d at_) fun z3 =>
 sumF z3 (fun z3a =>
 guardF (0 ≤ (List.length d:Int) ∧ (List.length d:Int) ≤ (List.length d:Int) ∧ Int.toNat (List.length d:Int) * 8 ≤ 140737488355328) <|
 bindF (loopF (fun go x=>f118_l2 d go x.1 x.2.1 x.2.2) fuelN (at_,(i64.wrap ((List.length d:Int) - (1:Int))),(List.replicate (Int.toNat (List.length d:Int)) (0:Int)))) fun z6 =>
 some (true,z6)) (fun z3b =>
 some (false,[]))
def C118 : Con where
 X := LI×Int
 Y := Bool×LI
 e := 0
 args x := [.dat T1 x.1,.dat T2 x.2]
 hin x := []
 F x := f118 x.1 x.2
 ret y := [O0 0,.dat .bool y.1]
 hout y := [(0,.arr 3 T2 y.2)]
 nout := 1
theorem C118_vc (d : LI) (at_:Int) (y : Bool×LI) (q : f118 d at_ = some y) : VC Tryz.f118 C118 (d,at_) y := by
 unfold f118 at q
 refine OL ?_
 obtain ⟨z3,hz3,q⟩ := bE q
 refine OQ ⟨Sum.elim (fun z3a=>[(0,⟨[(0,.dat T1 d),(1,.dat T2 at_)],[],0⟩)]) (fun z3b=>[(1,⟨[(4,.raw false [N0]),(5,.dat .bool false)],[],0⟩)]) z3,?_,?_⟩
 ·have q := hz3
  clear hz3
  unfold f118_j1 at q
  refine OL ?_
  obtain ⟨r4,hr4,q⟩ := bE q
  refine OL (AI f102_in (cV (cQ C102 d r4 [] false C102_holds hr4 rfl rfl (AI rfl (K0 (cN q (fun q=>?_) (fun q=>?_)))))))
  ·refine gY (cF (cN q (fun q=>?_) (fun q=>?_)))
   ·refine gY (gY ?_)
    obtain ⟨r5,hr5,q⟩ := bE q
    refine OL (AI f103_in (cV (cQ C103 d r5 [] false C103_holds hr5 rfl rfl (AI rfl (K0 (gY (cF (cI q (fun q=>?_) (fun q=>?_)))))))))
    ·cases sE q
     refine OL (E4 [] (R2 (AJ TV)))
    cases sE q
    refine E4 [] (R3 (AI TV TV))
   refine gN (gN (gN (cT (cT (OL ?_)))))
   cases sE q
   refine E4 [] (R2 (AJ TV))
  refine gN (cT (gN (gN (gN (gN (cT (cT (OL ?_))))))))
  cases sE q
  refine E4 [] (R2 (AJ TV))
 rcases z3 with z3a | z3b
 ·dsimp only [sumF] at q
  refine AI (OL (gI q (fun q=>?_))) TV
  refine OL (OL ?_)
  obtain ⟨z6,hz6,q⟩ := bE q
  refine lI (Int×Int×LI) LI (fun x=>⟨[(0,.dat T1 d),(1,.dat T2 x.1),(6,O0 0),(7,.dat T2 x.2.1)],[(0,.arr 3 T2 x.2.2)],1⟩) (fun z=>[(2,⟨[(6,O0 0)],[(0,.arr 3 T2 z)],1⟩)]) (loopF (fun go x=>f118_l2 d go x.1 x.2.1 x.2.2)) fuelN (at_,(i64.wrap ((List.length d:Int) - (1:Int))),(List.replicate (Int.toNat (List.length d:Int)) (0:Int))) z6 (AI hz6 (AI (E4 [(0,some 0)] (R4 (AJ (AI rfl TV)))) (AI (fun _ _ h=>lZ h) (AI (fun m=>curI (fun at__2=>curI (fun i=>fun l0 z q=>?_))) ?_))))
  ·have q : f118_l2 d (loopF (fun go x=>f118_l2 d go x.1 x.2.1 x.2.2) m) at__2 i l0 = some z := q
   unfold f118_l2 at q
   refine OL (OL (cI q (fun q=>?_) (fun q=>?_)))
   ·refine OL (OL (gI q (fun q=>?_)))
    refine gI q (fun q=>?_)
    refine gI q (fun q=>?_)
    refine OL (gI q (fun q=>?_))
    refine gI q (fun q=>?_)
    refine EI ((i64.wrap (Int.tdiv at__2 (rd (0:Int) d i))),(i64.wrap (i - (1:Int))),(List.set l0 (Int.toNat i) (Int.tmod at__2 (rd (0:Int) d i)))) (AI q (E4 [(0,some 0)] (R4 (AJ (AI rfl TV)))))
   cases sE q
   refine E4 [(0,some 0)] (AI rfl (AJ (AI rfl TV)))
  refine AI (OL ?_) TV
  cases sE q
  refine AI rfl (E4 [(0,some 0)] (R2 (AJ (AI rfl TV))))
 dsimp only [sumF] at q
 refine AI ?_ TV
 cases sE q
 refine AI rfl (E4 [(0,none)] (R2 (AJ (AI rfl TV))))
theorem C118_holds : HP C118 118 := hH Tryz.f118 (by kernel_rfl) rfl (fun x y q=>C118_vc x.1 x.2 y q)
theorem f118_in : InP 118 := inP (by kernel_rfl)
def f128_j1 (big : LI) (r1 : Int×LI) : Option (Sum Unit Unit) :=
 bif (r1.1 != (0:Int)) then
 some (Sum.inr ())
 else
 bindF (f73 r1.2 big) fun r4 =>
 bif (!r4) then
 some (Sum.inr ())
 else
 some (Sum.inl ())
def f128_j5 (d : LI) (r5 : Bool×LI) (i:Int) : Option Int :=
 guardF (0 ≤ i ∧ i < (List.length d:Int)) <|
 bif ((rd (0:Int) d i) == (1:Int)) then
 some (0:Int)
 else
 some (rd (0:Int) r5.2 (i64.wrap ((i64.wrap ((List.length r5.2:Int) - (List.length d:Int))) + i)))
def f128_l4 (d : LI) (r5 : Bool×LI) (go : (Int×Int) → Option Int) (n:Int) (i:Int) : Option Int :=
 bif (decide (i < (List.length d:Int))) then
 guardF (0 ≤ (i64.wrap ((i64.wrap ((List.length r5.2:Int) - (List.length d:Int))) + i)) ∧ (i64.wrap ((i64.wrap ((List.length r5.2:Int) - (List.length d:Int))) + i)) < (List.length r5.2:Int)) <|
 bindF (f128_j5 d r5 i) fun z9 =>
 guardF (0 ≤ i ∧ i < (List.length d:Int)) <|
 go ((i64.wrap ((i64.wrap (n * (rd (0:Int) d i))) + z9)),(i64.wrap (i + (1:Int))))
 else
 some n
def f128 (d : LI) (big : LI) (at_:Int) : Option (Int×Bool) :=
 bindF (f127 d big) fun r1 =>
 bindF (f128_j1 big r1) fun z3 =>
 sumF z3 (fun z3a =>
 bindF (f118 big at_) fun r5 =>
 bif (!r5.1) then
 some ((0:Int),false)
 else
 bindF (loopF (fun go x=>f128_l4 d r5 go x.1 x.2) fuelN ((0:Int),(0:Int))) fun z8 =>
 some (z8,true)) (fun z3b =>
 some ((0:Int),false))
def C128 : Con where
 X := LI×LI×Int
 Y := Int×Bool
 e := 0
 args x := [.dat T1 x.1,.dat T1 x.2.1,.dat T2 x.2.2]
 hin x := []
 F x := f128 x.1 x.2.1 x.2.2
 ret y := [.dat T2 y.1,.dat .bool y.2]
 hout y := []
 nout := 0
theorem C128_vc (d : LI) (big : LI) (at_:Int) (y : Int×Bool) (q : f128 d big at_ = some y) : VC Tryz.f128 C128 (d,big,at_) y := by
 unfold f128 at q
 refine OL (OL ?_)
 obtain ⟨r1,hr1,q⟩ := bE q
 refine OL (AI f127_in (cV (cQ C127 (d,big) r1 [] false C127_holds hr1 rfl rfl (R2 (K0 ?_)))))
 obtain ⟨z3,hz3,q⟩ := bE q
 refine OQ ⟨Sum.elim (fun z3a=>[(0,⟨[(0,.dat T1 d),(1,.dat T1 big),(2,.dat T2 at_)],[],0⟩)]) (fun z3b=>[(1,⟨[(6,D0 0),(7,.dat .bool false)],[],0⟩)]) z3,?_,?_⟩
 ·have q := hz3
  clear hz3
  unfold f128_j1 at q
  refine OL (cN q (fun q=>?_) (fun q=>?_))
  ·refine gY (gY ?_)
   obtain ⟨r4,hr4,q⟩ := bE q
   refine OL (AI f73_in (cV (cQ C73 (r1.2,big) r4 [] true C73_holds hr4 rfl rfl (R2 (AI (fun _=>rfl) (R2 (AI TV (AI TV (gY (cF (cI q (fun q=>?_) (fun q=>?_))))))))))))
   ·cases sE q
    refine OL (E4 [] (R3 (AI TV TV)))
   cases sE q
   refine E4 [] (R4 (AI TV TV))
  refine gN (gN (gN (cT (cT (OL ?_)))))
  cases sE q
  refine E4 [] (R3 (AI TV TV))
 rcases z3 with z3a | z3b
 ·dsimp only [sumF] at q
  refine AI (OL ?_) TV
  obtain ⟨r5,hr5,q⟩ := bE q
  refine OL (AI f118_in (cV (cQ C118 (big,at_) r5 [] false C118_holds hr5 rfl rfl (R2 (K0 (OL (OL (cI q (fun q=>?_) (fun q=>?_)))))))))
  ·cases sE q
   refine OL (AI rfl (E4 [] (R3 (AI TV TV))))
  refine OL (OL (OL ?_))
  obtain ⟨z8,hz8,q⟩ := bE q
  refine lI (Int×Int) Int (fun x=>⟨[(0,.dat T1 d),(10,O0 0),(12,.dat T2 x.1),(13,.dat T2 x.2)],[(0,.arr 3 T2 r5.2)],1⟩) (fun z=>[(2,⟨[(12,.dat T2 z)],[],0⟩)]) (loopF (fun go x=>f128_l4 d r5 go x.1 x.2)) fuelN ((0:Int),(0:Int)) z8 (AI hz8 (AI (E4 [(0,some 0)] (R4 (AJ (AI rfl TV)))) (AI (fun _ _ h=>lZ h) (AI (fun m=>curI (fun n=>fun i z q=>?_)) ?_))))
  ·have q : f128_l4 d r5 (loopF (fun go x=>f128_l4 d r5 go x.1 x.2) m) n i = some z := q
   unfold f128_l4 at q
   refine OL (OL (cI q (fun q=>?_) (fun q=>?_)))
   ·refine OL (OL (gI q (fun q=>?_)))
    obtain ⟨z9,hz9,q⟩ := bE q
    refine OQ ⟨[(0,⟨[(0,.dat T1 d),(10,O0 0),(12,.dat T2 n),(13,.dat T2 i),(14,.dat T2 z9)],[(0,.arr 3 T2 r5.2)],1⟩)],?_,?_⟩
    ·have q := hz9
     clear hz9
     unfold f128_j5 at q
     refine OL (gI q (fun q=>?_))
     refine cI q (fun q=>?_) (fun q=>?_)
     ·cases sE q
      refine E4 [(0,some 0)] (R5 (AJ (AI rfl TV)))
     cases sE q
     refine E4 [(0,some 0)] (R5 (AJ (AI rfl TV)))
    refine AI (gI q (fun q=>?_)) TV
    refine EI ((i64.wrap ((i64.wrap (n * (rd (0:Int) d i))) + z9)),(i64.wrap (i + (1:Int)))) (AI q (E4 [(0,some 0)] (R4 (AJ (AI rfl TV)))))
   cases sE q
   refine E4 [] (R2 (AI TV TV))
  refine AI (OL ?_) TV
  cases sE q
  refine AI rfl (E4 [] (R3 (AI TV TV)))
 dsimp only [sumF] at q
 refine AI ?_ TV
 cases sE q
 refine AI rfl (E4 [] (R3 (AI TV TV)))
theorem C128_holds : HP C128 128 := hH Tryz.f128 (by kernel_rfl) rfl (fun x y q=>C128_vc x.1 x.2.1 x.2.2 y q)
theorem f128_in : InP 128 := inP (by kernel_rfl)
def f141 (n:Int) : Option Int :=
 bif (decide (n < (0:Int))) then
 some (u64.wrap ((u64.wrap (i64.wrap (0 - (i64.wrap (n + (1:Int)))))) + (1:Int)))
 else
 some (u64.wrap n)
def C141 : Con where
 X := Int
 Y := Int
 e := 0
 args x := [.dat T2 x]
 hin x := []
 F x := f141 x
 ret y := [.dat T4 y]
 hout y := []
 nout := 0
theorem C141_vc (n:Int) (y:Int) (q : f141 n = some y) : VC Tryz.f141 C141 n y := by
 unfold f141 at q
 refine OL (OL (OL (cI q (fun q=>?_) (fun q=>?_))))
 ·cases sE q
  refine OL (AI rfl (E4 [] (R2 (AI TV TV))))
 cases sE q
 refine OL (AI rfl (E4 [] (R2 (AI TV TV))))
theorem C141_holds : HP C141 141 := hH Tryz.f141 (by kernel_rfl) rfl (fun x y q=>C141_vc x y q)
theorem f141_in : InP 141 := inP (by kernel_rfl)
def f87 (n:Int) : Option (Bool×Int) :=
 bindF (f141 n) fun r1 =>
 some ((decide (n < (0:Int))),r1)
def C87 : Con where
 X := Int
 Y := Bool×Int
 e := 0
 args x := [.dat T2 x]
 hin x := []
 F x := f87 x
 ret y := [.raw true [(.d .bool y.1),(.d T4 y.2),(.d T4 (0:Int)),(.d T4 (0:Int)),(.d T4 (0:Int))]]
 hout y := []
 nout := 0
theorem C87_vc (n:Int) (y : Bool×Int) (q : f87 n = some y) : VC Tryz.f87 C87 n y := by
 unfold f87 at q
 refine OL (OL ?_)
 obtain ⟨r1,hr1,q⟩ := bE q
 refine OL (AI f141_in (cV (cQ C141 n r1 [] false C141_holds hr1 rfl rfl (AI rfl (K0 (OL ?_))))))
 cases sE q
 refine AI rfl (E4 [] (AI rfl (AJ TV)))
theorem C87_holds : HP C87 87 := hH Tryz.f87 (by kernel_rfl) rfl (fun x y q=>C87_vc x y q)
theorem f87_in : InP 87 := inP (by kernel_rfl)
def f182_l1 (a_0:Int) (a_1:Int) (a_2:Int) (a_3:Int) (b_0:Int) (b_1:Int) (b_2:Int) (b_3:Int) (go : (Int×Int×Int×Int×Int×Int) → Option (Int×Int×Int×Int)) (carry:Int) (i:Int) (c3_0:Int) (c3_1:Int) (c3_2:Int) (c3_3:Int) : Option (Int×Int×Int×Int) :=
 bif (decide (i < (4:Int))) then
 guardF (0 ≤ i ∧ i < (4:Int)) <|
 pickF i
 [(bif (decide ((u64.wrap (a_0 + b_0)) < a_0)) then
 go ((1:Int),(i64.wrap (i + (1:Int))),(u64.wrap ((u64.wrap (a_0 + b_0)) + carry)),c3_1,c3_2,c3_3)
 else
 bif (decide ((u64.wrap ((u64.wrap (a_0 + b_0)) + carry)) < (u64.wrap (a_0 + b_0)))) then
 go ((1:Int),(i64.wrap (i + (1:Int))),(u64.wrap ((u64.wrap (a_0 + b_0)) + carry)),c3_1,c3_2,c3_3)
 else
 go ((0:Int),(i64.wrap (i + (1:Int))),(u64.wrap ((u64.wrap (a_0 + b_0)) + carry)),c3_1,c3_2,c3_3)),
 (bif (decide ((u64.wrap (a_1 + b_1)) < a_1)) then
 go ((1:Int),(i64.wrap (i + (1:Int))),c3_0,(u64.wrap ((u64.wrap (a_1 + b_1)) + carry)),c3_2,c3_3)
 else
 bif (decide ((u64.wrap ((u64.wrap (a_1 + b_1)) + carry)) < (u64.wrap (a_1 + b_1)))) then
 go ((1:Int),(i64.wrap (i + (1:Int))),c3_0,(u64.wrap ((u64.wrap (a_1 + b_1)) + carry)),c3_2,c3_3)
 else
 go ((0:Int),(i64.wrap (i + (1:Int))),c3_0,(u64.wrap ((u64.wrap (a_1 + b_1)) + carry)),c3_2,c3_3)),
 (bif (decide ((u64.wrap (a_2 + b_2)) < a_2)) then
 go ((1:Int),(i64.wrap (i + (1:Int))),c3_0,c3_1,(u64.wrap ((u64.wrap (a_2 + b_2)) + carry)),c3_3)
 else
 bif (decide ((u64.wrap ((u64.wrap (a_2 + b_2)) + carry)) < (u64.wrap (a_2 + b_2)))) then
 go ((1:Int),(i64.wrap (i + (1:Int))),c3_0,c3_1,(u64.wrap ((u64.wrap (a_2 + b_2)) + carry)),c3_3)
 else
 go ((0:Int),(i64.wrap (i + (1:Int))),c3_0,c3_1,(u64.wrap ((u64.wrap (a_2 + b_2)) + carry)),c3_3)),
 (bif (decide ((u64.wrap (a_3 + b_3)) < a_3)) then
 go ((1:Int),(i64.wrap (i + (1:Int))),c3_0,c3_1,c3_2,(u64.wrap ((u64.wrap (a_3 + b_3)) + carry)))
 else
 bif (decide ((u64.wrap ((u64.wrap (a_3 + b_3)) + carry)) < (u64.wrap (a_3 + b_3)))) then
 go ((1:Int),(i64.wrap (i + (1:Int))),c3_0,c3_1,c3_2,(u64.wrap ((u64.wrap (a_3 + b_3)) + carry)))
 else
 go ((0:Int),(i64.wrap (i + (1:Int))),c3_0,c3_1,c3_2,(u64.wrap ((u64.wrap (a_3 + b_3)) + carry))))]
 else
 some (c3_0,c3_1,c3_2,c3_3)
def f182 (a_0:Int) (a_1:Int) (a_2:Int) (a_3:Int) (b_0:Int) (b_1:Int) (b_2:Int) (b_3:Int) : Option (Int×Int×Int×Int) :=
 bindF (loopF (fun go x=>f182_l1 a_0 a_1 a_2 a_3 b_0 b_1 b_2 b_3 go x.1 x.2.1 x.2.2.1 x.2.2.2.1 x.2.2.2.2.1 x.2.2.2.2.2) fuelN ((0:Int),(0:Int),(0:Int),(0:Int),(0:Int),(0:Int))) fun z3 =>
 some (z3.1,z3.2.1,z3.2.2.1,z3.2.2.2)
def C182 : Con where
 X := Int×Int×Int×Int×Int×Int×Int×Int
 Y := Int×Int×Int×Int
 e := 0
 args x := [.raw true [(.d T4 x.1),(.d T4 x.2.1),(.d T4 x.2.2.1),(.d T4 x.2.2.2.1)],.raw true [(.d T4 x.2.2.2.2.1),(.d T4 x.2.2.2.2.2.1),(.d T4 x.2.2.2.2.2.2.1),(.d T4 x.2.2.2.2.2.2.2)]]
 hin x := []
 F x := f182 x.1 x.2.1 x.2.2.1 x.2.2.2.1 x.2.2.2.2.1 x.2.2.2.2.2.1 x.2.2.2.2.2.2.1 x.2.2.2.2.2.2.2
 ret y := [.raw true [(.d T4 y.1),(.d T4 y.2.1),(.d T4 y.2.2.1),(.d T4 y.2.2.2)]]
 hout y := []
 nout := 0
theorem C182_vc (a_0:Int) (a_1:Int) (a_2:Int) (a_3:Int) (b_0:Int) (b_1:Int) (b_2:Int) (b_3:Int) (y : Int×Int×Int×Int) (q : f182 a_0 a_1 a_2 a_3 b_0 b_1 b_2 b_3 = some y) : VC Tryz.f182 C182 (a_0,a_1,a_2,a_3,b_0,b_1,b_2,b_3) y := by
 unfold f182 at q
 refine OL (OL (OL (OL (OL ?_))))
 obtain ⟨z3,hz3,q⟩ := bE q
 refine lI (Int×Int×Int×Int×Int×Int) (Int×Int×Int×Int) (fun x=>⟨[(2,P0 0 0),(3,P0 1 0),(4,P0 2 0),(5,P0 3 0),(6,.dat T4 x.1),(7,.dat T2 x.2.1)],[(0,.cells [(.d T4 a_0),(.d T4 a_1),(.d T4 a_2),(.d T4 a_3)]),(1,.cells [(.d T4 b_0),(.d T4 b_1),(.d T4 b_2),(.d T4 b_3)]),(2,.cells [(.d T4 (0:Int)),(.d T4 (0:Int)),(.d T4 (0:Int)),(.d T4 (0:Int))]),(3,.cells [(.d T4 x.2.2.1),(.d T4 x.2.2.2.1),(.d T4 x.2.2.2.2.1),(.d T4 x.2.2.2.2.2)])],4⟩) (fun z=>[(2,⟨[(4,P0 0 0),(5,P0 1 0)],[(0,.cells [(.d T4 (0:Int)),(.d T4 (0:Int)),(.d T4 (0:Int)),(.d T4 (0:Int))]),(1,.cells [(.d T4 z.1),(.d T4 z.2.1),(.d T4 z.2.2.1),(.d T4 z.2.2.2)])],2⟩)]) (loopF (fun go x=>f182_l1 a_0 a_1 a_2 a_3 b_0 b_1 b_2 b_3 go x.1 x.2.1 x.2.2.1 x.2.2.2.1 x.2.2.2.2.1 x.2.2.2.2.2)) fuelN ((0:Int),(0:Int),(0:Int),(0:Int),(0:Int),(0:Int)) z3 (AI hz3 (AI (E4 I4 (R3 (AI (R4 TV) (R4 TV)))) (AI (fun _ _ h=>lZ h) (AI (fun m=>curI (fun carry=>curI (fun i=>curI (fun c3_0=>curI (fun c3_1=>curI (fun c3_2=>fun c3_3 z q=>?_)))))) ?_))))
 ·have q : f182_l1 a_0 a_1 a_2 a_3 b_0 b_1 b_2 b_3 (loopF (fun go x=>f182_l1 a_0 a_1 a_2 a_3 b_0 b_1 b_2 b_3 go x.1 x.2.1 x.2.2.1 x.2.2.2.1 x.2.2.2.2.1 x.2.2.2.2.2) m) carry i c3_0 c3_1 c3_2 c3_3 = some z := q
  unfold f182_l1 at q
  refine OL (OL (cI q (fun q=>?_) (fun q=>?_)))
  ·refine OL (OL (EI (.take 0 (.take 1 (.take 2 (.take 3 (.take 4 (.take 5 (.take 6 (.take 7 .done)))))))) (EI [] (EI [] (AI rfl (gI q (fun q=>?_)))))))
   refine AI (fun hk4=>?_) ?_
   ·have q := pickE q hk4
    dsimp only [nthO] at q
    refine AI (rE hk4 (by decide)) (AI (fun _=>?_) (AI (fun h=>absurd (hk4.symm.trans h) (by decide)) (AI (fun h=>absurd (hk4.symm.trans h) (by decide)) (AI (fun h=>absurd (hk4.symm.trans h) (by decide)) TV))))
    refine OL (OL (AI (rE hk4 (by decide)) (AI (fun _=>?_) (AI (fun h=>absurd (hk4.symm.trans h) (by decide)) (AI (fun h=>absurd (hk4.symm.trans h) (by decide)) (AI (fun h=>absurd (hk4.symm.trans h) (by decide)) TV))))))
    refine OL (OL (AI (rE hk4 (by decide)) (AI (fun _=>?_) (AI (fun h=>absurd (hk4.symm.trans h) (by decide)) (AI (fun h=>absurd (hk4.symm.trans h) (by decide)) (AI (fun h=>absurd (hk4.symm.trans h) (by decide)) TV))))))
    refine cN q (fun q=>?_) (fun q=>?_)
    ·refine gY (gY (cF (cI q (fun q=>?_) (fun q=>?_))))
     ·refine EI ((1:Int),(i64.wrap (i + (1:Int))),(u64.wrap ((u64.wrap (a_0 + b_0)) + carry)),c3_1,c3_2,c3_3) (AI q (E4 I4 (R3 (AI (R4 TV) (R4 TV)))))
     refine EI ((0:Int),(i64.wrap (i + (1:Int))),(u64.wrap ((u64.wrap (a_0 + b_0)) + carry)),c3_1,c3_2,c3_3) (AI q (E4 I4 (R3 (AI (R4 TV) (R4 TV)))))
    refine gN (gN (cT (cT (EI ((1:Int),(i64.wrap (i + (1:Int))),(u64.wrap ((u64.wrap (a_0 + b_0)) + carry)),c3_1,c3_2,c3_3) (AI q (E4 I4 (R3 (AI (R4 TV) (R4 TV)))))))))
   refine AI (fun hk4=>?_) ?_
   ·have q := pickE q hk4
    dsimp only [nthO] at q
    refine AI (rE hk4 (by decide)) (AI (fun h=>absurd (hk4.symm.trans h) (by decide)) ?_)
    refine AI (fun _=>?_) (AI (fun h=>absurd (hk4.symm.trans h) (by decide)) (AI (fun h=>absurd (hk4.symm.trans h) (by decide)) TV))
    refine OL (OL (AI (rE hk4 (by decide)) (AI (fun h=>absurd (hk4.symm.trans h) (by decide)) ?_)))
    refine AI (fun _=>?_) (AI (fun h=>absurd (hk4.symm.trans h) (by decide)) (AI (fun h=>absurd (hk4.symm.trans h) (by decide)) TV))
    refine OL (OL (AI (rE hk4 (by decide)) (AI (fun h=>absurd (hk4.symm.trans h) (by decide)) ?_)))
    refine AI (fun _=>?_) (AI (fun h=>absurd (hk4.symm.trans h) (by decide)) (AI (fun h=>absurd (hk4.symm.trans h) (by decide)) TV))
    refine cN q (fun q=>?_) (fun q=>?_)
    ·refine gY (gY (cF (cI q (fun q=>?_) (fun q=>?_))))
     ·refine EI ((1:Int),(i64.wrap (i + (1:Int))),c3_0,(u64.wrap ((u64.wrap (a_1 + b_1)) + carry)),c3_2,c3_3) (AI q (E4 I4 (R3 (AI (R4 TV) (R4 TV)))))
     refine EI ((0:Int),(i64.wrap (i + (1:Int))),c3_0,(u64.wrap ((u64.wrap (a_1 + b_1)) + carry)),c3_2,c3_3) (AI q (E4 I4 (R3 (AI (R4 TV) (R4 TV)))))
    refine gN (gN (cT (cT (EI ((1:Int),(i64.wrap (i + (1:Int))),c3_0,(u64.wrap ((u64.wrap (a_1 + b_1)) + carry)),c3_2,c3_3) (AI q (E4 I4 (R3 (AI (R4 TV) (R4 TV)))))))))
   refine AI (fun hk4=>?_) ?_
   ·have q := pickE q hk4
    dsimp only [nthO] at q
    refine AI (rE hk4 (by decide)) (AI (fun h=>absurd (hk4.symm.trans h) (by decide)) ?_)
    refine AI (fun h=>absurd (hk4.symm.trans h) (by decide)) ?_
    refine AI (fun _=>?_) (AI (fun h=>absurd (hk4.symm.trans h) (by decide)) TV)
    refine OL (OL (AI (rE hk4 (by decide)) (AI (fun h=>absurd (hk4.symm.trans h) (by decide)) ?_)))
    refine AI (fun h=>absurd (hk4.symm.trans h) (by decide)) ?_
    refine AI (fun _=>?_) (AI (fun h=>absurd (hk4.symm.trans h) (by decide)) TV)
    refine OL (OL (AI (rE hk4 (by decide)) (AI (fun h=>absurd (hk4.symm.trans h) (by decide)) ?_)))
    refine AI (fun h=>absurd (hk4.symm.trans h) (by decide)) ?_
    refine AI (fun _=>?_) (AI (fun h=>absurd (hk4.symm.trans h) (by decide)) TV)
    refine cN q (fun q=>?_) (fun q=>?_)
    ·refine gY (gY (cF (cI q (fun q=>?_) (fun q=>?_))))
     ·refine EI ((1:Int),(i64.wrap (i + (1:Int))),c3_0,c3_1,(u64.wrap ((u64.wrap (a_2 + b_2)) + carry)),c3_3) (AI q (E4 I4 (R3 (AI (R4 TV) (R4 TV)))))
     refine EI ((0:Int),(i64.wrap (i + (1:Int))),c3_0,c3_1,(u64.wrap ((u64.wrap (a_2 + b_2)) + carry)),c3_3) (AI q (E4 I4 (R3 (AI (R4 TV) (R4 TV)))))
    refine gN (gN (cT (cT (EI ((1:Int),(i64.wrap (i + (1:Int))),c3_0,c3_1,(u64.wrap ((u64.wrap (a_2 + b_2)) + carry)),c3_3) (AI q (E4 I4 (R3 (AI (R4 TV) (R4 TV)))))))))
   refine AI (fun hk4=>?_) TV
   have q := pickE q hk4
   dsimp only [nthO] at q
   refine AI (rE hk4 (by decide)) (AI (fun h=>absurd (hk4.symm.trans h) (by decide)) ?_)
   refine AI (fun h=>absurd (hk4.symm.trans h) (by decide)) ?_
   refine AI (fun h=>absurd (hk4.symm.trans h) (by decide)) ?_
   refine AI (fun _=>?_) TV
   refine OL (OL (AI (rE hk4 (by decide)) (AI (fun h=>absurd (hk4.symm.trans h) (by decide)) ?_)))
   refine AI (fun h=>absurd (hk4.symm.trans h) (by decide)) ?_
   refine AI (fun h=>absurd (hk4.symm.trans h) (by decide)) ?_
   refine AI (fun _=>?_) TV
   refine OL (OL (AI (rE hk4 (by decide)) (AI (fun h=>absurd (hk4.symm.trans h) (by decide)) ?_)))
   refine AI (fun h=>absurd (hk4.symm.trans h) (by decide)) ?_
   refine AI (fun h=>absurd (hk4.symm.trans h) (by decide)) ?_
   refine AI (fun _=>?_) TV
   refine cN q (fun q=>?_) (fun q=>?_)
   ·refine gY (gY (cF (cI q (fun q=>?_) (fun q=>?_))))
    ·refine EI ((1:Int),(i64.wrap (i + (1:Int))),c3_0,c3_1,c3_2,(u64.wrap ((u64.wrap (a_3 + b_3)) + carry))) (AI q (E4 I4 (R3 (AI (R4 TV) (R4 TV)))))
    refine EI ((0:Int),(i64.wrap (i + (1:Int))),c3_0,c3_1,c3_2,(u64.wrap ((u64.wrap (a_3 + b_3)) + carry))) (AI q (E4 I4 (R3 (AI (R4 TV) (R4 TV)))))
   refine gN (gN (cT (cT (EI ((1:Int),(i64.wrap (i + (1:Int))),c3_0,c3_1,c3_2,(u64.wrap ((u64.wrap (a_3 + b_3)) + carry))) (AI q (E4 I4 (R3 (AI (R4 TV) (R4 TV)))))))))
  cases sE q
  refine E4 [(0,some 2),(1,some 3)] (AI rfl (AI (R2 TV) (R2 TV)))
 refine AI (OL (OL ?_)) TV
 cases sE q
 refine AI rfl (E4 [] (AI rfl (AJ TV)))
theorem C182_holds : HP C182 182 := hH Tryz.f182 (by kernel_rfl) rfl (fun x y q=>C182_vc x.1 x.2.1 x.2.2.1 x.2.2.2.1 x.2.2.2.2.1 x.2.2.2.2.2.1 x.2.2.2.2.2.2.1 x.2.2.2.2.2.2.2 y q)
theorem f182_in : InP 182 := inP (by kernel_rfl)
def f191_l1 (a_0:Int) (a_1:Int) (a_2:Int) (a_3:Int) (b_0:Int) (b_1:Int) (b_2:Int) (b_3:Int) (go : Int → Option (Sum Bool Unit)) (i:Int) : Option (Sum Bool Unit) :=
 bif (decide (i ≥ (0:Int))) then
 guardF (0 ≤ i ∧ i < (4:Int)) <|
 pickF i
 [(bif (a_0 != b_0) then
 some (Sum.inl (decide (a_0 < b_0)))
 else
 go (i64.wrap (i - (1:Int)))),
 (bif (a_1 != b_1) then
 some (Sum.inl (decide (a_1 < b_1)))
 else
 go (i64.wrap (i - (1:Int)))),
 (bif (a_2 != b_2) then
 some (Sum.inl (decide (a_2 < b_2)))
 else
 go (i64.wrap (i - (1:Int)))),
 (bif (a_3 != b_3) then
 some (Sum.inl (decide (a_3 < b_3)))
 else
 go (i64.wrap (i - (1:Int))))]
 else
 some (Sum.inr ())
def f191 (a_0:Int) (a_1:Int) (a_2:Int) (a_3:Int) (b_0:Int) (b_1:Int) (b_2:Int) (b_3:Int) : Option Bool :=
 bindF (loopF (fun go x=>f191_l1 a_0 a_1 a_2 a_3 b_0 b_1 b_2 b_3 go x) fuelN (3:Int)) fun z2 =>
 sumF z2 (fun z2a =>
 some z2a) (fun z2b =>
 some false)
def C191 : Con where
 X := Int×Int×Int×Int×Int×Int×Int×Int
 Y := Bool
 e := 0
 args x := [.raw true [(.d T4 x.1),(.d T4 x.2.1),(.d T4 x.2.2.1),(.d T4 x.2.2.2.1)],.raw true [(.d T4 x.2.2.2.2.1),(.d T4 x.2.2.2.2.2.1),(.d T4 x.2.2.2.2.2.2.1),(.d T4 x.2.2.2.2.2.2.2)]]
 hin x := []
 F x := f191 x.1 x.2.1 x.2.2.1 x.2.2.2.1 x.2.2.2.2.1 x.2.2.2.2.2.1 x.2.2.2.2.2.2.1 x.2.2.2.2.2.2.2
 ret y := [.dat .bool y]
 hout y := []
 nout := 0
theorem C191_vc (a_0:Int) (a_1:Int) (a_2:Int) (a_3:Int) (b_0:Int) (b_1:Int) (b_2:Int) (b_3:Int) (y : Bool) (q : f191 a_0 a_1 a_2 a_3 b_0 b_1 b_2 b_3 = some y) : VC Tryz.f191 C191 (a_0,a_1,a_2,a_3,b_0,b_1,b_2,b_3) y := by
 unfold f191 at q
 refine OL (OL (OL ?_))
 obtain ⟨z2,hz2,q⟩ := bE q
 refine lI Int (Sum Bool Unit) (fun x=>⟨[(2,P0 0 0),(3,P0 1 0),(5,.dat T2 x)],[(0,.cells [(.d T4 a_0),(.d T4 a_1),(.d T4 a_2),(.d T4 a_3)]),(1,.cells [(.d T4 b_0),(.d T4 b_1),(.d T4 b_2),(.d T4 b_3)])],2⟩) (fun z=>Sum.elim (fun za=>[(1,⟨[(4,.dat .bool za)],[],0⟩)]) (fun zb=>[(2,⟨[],[],0⟩)]) z) (loopF (fun go x=>f191_l1 a_0 a_1 a_2 a_3 b_0 b_1 b_2 b_3 go x)) fuelN (3:Int) z2 (AI hz2 (AI (E4 I2 (R2 (AI (R2 TV) (R2 TV)))) (AI (fun _ _ h=>lZ h) (AI (fun m=>fun i z q=>?_) ?_))))
 ·have q : f191_l1 a_0 a_1 a_2 a_3 b_0 b_1 b_2 b_3 (loopF (fun go x=>f191_l1 a_0 a_1 a_2 a_3 b_0 b_1 b_2 b_3 go x) m) i = some z := q
  unfold f191_l1 at q
  refine OL (OL (cI q (fun q=>?_) (fun q=>?_)))
  ·refine OL (OL (EI (.take 0 (.take 1 (.take 2 (.take 3 (.take 4 (.take 5 (.take 6 .done))))))) (EI [] (EI [] (AI rfl (gI q (fun q=>?_)))))))
   refine AI (fun hk3=>?_) ?_
   ·have q := pickE q hk3
    dsimp only [nthO] at q
    refine AI (rE hk3 (by decide)) (AI (fun _=>?_) (AI (fun h=>absurd (hk3.symm.trans h) (by decide)) (AI (fun h=>absurd (hk3.symm.trans h) (by decide)) (AI (fun h=>absurd (hk3.symm.trans h) (by decide)) TV))))
    refine cI q (fun q=>?_) (fun q=>?_)
    ·refine OL (EI (.take 0 (.take 1 (.take 2 (.take 3 (.take 4 (.take 5 (.take 6 (.take 7 .done)))))))) (EI [] (EI [] (AI rfl (AI (rE hk3 (by decide)) (AI (fun _=>?_) (AI (fun h=>absurd (hk3.symm.trans h) (by decide)) (AI (fun h=>absurd (hk3.symm.trans h) (by decide)) (AI (fun h=>absurd (hk3.symm.trans h) (by decide)) TV)))))))))
     refine AI (rE hk3 (by decide)) (AI (fun _=>?_) (AI (fun h=>absurd (hk3.symm.trans h) (by decide)) (AI (fun h=>absurd (hk3.symm.trans h) (by decide)) (AI (fun h=>absurd (hk3.symm.trans h) (by decide)) TV))))
     cases sE q
     refine E4 [] (R2 (AI TV TV))
    refine EI (i64.wrap (i - (1:Int))) (AI q (E4 I2 (R2 (AI (R2 TV) (R2 TV)))))
   refine AI (fun hk3=>?_) ?_
   ·have q := pickE q hk3
    dsimp only [nthO] at q
    refine AI (rE hk3 (by decide)) (AI (fun h=>absurd (hk3.symm.trans h) (by decide)) ?_)
    refine AI (fun _=>?_) (AI (fun h=>absurd (hk3.symm.trans h) (by decide)) (AI (fun h=>absurd (hk3.symm.trans h) (by decide)) TV))
    refine cI q (fun q=>?_) (fun q=>?_)
    ·refine OL (EI (.take 0 (.take 1 (.take 2 (.take 3 (.take 4 (.take 5 (.take 6 (.take 7 .done)))))))) (EI [] (EI [] (AI rfl (AI (rE hk3 (by decide)) (AI (fun h=>absurd (hk3.symm.trans h) (by decide)) ?_))))))
     refine AI (fun _=>?_) (AI (fun h=>absurd (hk3.symm.trans h) (by decide)) (AI (fun h=>absurd (hk3.symm.trans h) (by decide)) TV))
     refine AI (rE hk3 (by decide)) (AI (fun h=>absurd (hk3.symm.trans h) (by decide)) ?_)
     refine AI (fun _=>?_) (AI (fun h=>absurd (hk3.symm.trans h) (by decide)) (AI (fun h=>absurd (hk3.symm.trans h) (by decide)) TV))
     cases sE q
     refine E4 [] (R2 (AI TV TV))
    refine EI (i64.wrap (i - (1:Int))) (AI q (E4 I2 (R2 (AI (R2 TV) (R2 TV)))))
   refine AI (fun hk3=>?_) ?_
   ·have q := pickE q hk3
    dsimp only [nthO] at q
    refine AI (rE hk3 (by decide)) (AI (fun h=>absurd (hk3.symm.trans h) (by decide)) ?_)
    refine AI (fun h=>absurd (hk3.symm.trans h) (by decide)) ?_
    refine AI (fun _=>?_) (AI (fun h=>absurd (hk3.symm.trans h) (by decide)) TV)
    refine cI q (fun q=>?_) (fun q=>?_)
    ·refine OL (EI (.take 0 (.take 1 (.take 2 (.take 3 (.take 4 (.take 5 (.take 6 (.take 7 .done)))))))) (EI [] (EI [] (AI rfl (AI (rE hk3 (by decide)) (AI (fun h=>absurd (hk3.symm.trans h) (by decide)) ?_))))))
     refine AI (fun h=>absurd (hk3.symm.trans h) (by decide)) ?_
     refine AI (fun _=>?_) (AI (fun h=>absurd (hk3.symm.trans h) (by decide)) TV)
     refine AI (rE hk3 (by decide)) (AI (fun h=>absurd (hk3.symm.trans h) (by decide)) ?_)
     refine AI (fun h=>absurd (hk3.symm.trans h) (by decide)) ?_
     refine AI (fun _=>?_) (AI (fun h=>absurd (hk3.symm.trans h) (by decide)) TV)
     cases sE q
     refine E4 [] (R2 (AI TV TV))
    refine EI (i64.wrap (i - (1:Int))) (AI q (E4 I2 (R2 (AI (R2 TV) (R2 TV)))))
   refine AI (fun hk3=>?_) TV
   have q := pickE q hk3
   dsimp only [nthO] at q
   refine AI (rE hk3 (by decide)) (AI (fun h=>absurd (hk3.symm.trans h) (by decide)) ?_)
   refine AI (fun h=>absurd (hk3.symm.trans h) (by decide)) ?_
   refine AI (fun h=>absurd (hk3.symm.trans h) (by decide)) ?_
   refine AI (fun _=>?_) TV
   refine cI q (fun q=>?_) (fun q=>?_)
   ·refine OL (EI (.take 0 (.take 1 (.take 2 (.take 3 (.take 4 (.take 5 (.take 6 (.take 7 .done)))))))) (EI [] (EI [] (AI rfl (AI (rE hk3 (by decide)) (AI (fun h=>absurd (hk3.symm.trans h) (by decide)) ?_))))))
    refine AI (fun h=>absurd (hk3.symm.trans h) (by decide)) ?_
    refine AI (fun h=>absurd (hk3.symm.trans h) (by decide)) ?_
    refine AI (fun _=>?_) TV
    refine AI (rE hk3 (by decide)) (AI (fun h=>absurd (hk3.symm.trans h) (by decide)) ?_)
    refine AI (fun h=>absurd (hk3.symm.trans h) (by decide)) ?_
    refine AI (fun h=>absurd (hk3.symm.trans h) (by decide)) ?_
    refine AI (fun _=>?_) TV
    cases sE q
    refine E4 [] (R2 (AI TV TV))
   refine EI (i64.wrap (i - (1:Int))) (AI q (E4 I2 (R2 (AI (R2 TV) (R2 TV)))))
  cases sE q
  refine E4 [] (AI rfl (AI TV TV))
 rcases z2 with z2a | z2b
 ·dsimp only [sumF] at q
  refine AI ?_ TV
  cases sE q
  refine AI rfl (E4 [] (R2 (AI TV TV)))
 dsimp only [sumF] at q
 refine AI (OL ?_) TV
 cases sE q
 refine AI rfl (E4 [] (R2 (AI TV TV)))
theorem C191_holds : HP C191 191 := hH Tryz.f191 (by kernel_rfl) rfl (fun x y q=>C191_vc x.1 x.2.1 x.2.2.1 x.2.2.2.1 x.2.2.2.2.1 x.2.2.2.2.2.1 x.2.2.2.2.2.2.1 x.2.2.2.2.2.2.2 y q)
theorem f191_in : InP 191 := inP (by kernel_rfl)
def f192_l1 (a_0:Int) (a_1:Int) (a_2:Int) (a_3:Int) (b_0:Int) (b_1:Int) (b_2:Int) (b_3:Int) (go : (Int×Int×Int×Int×Int×Int) → Option (Int×Int×Int×Int)) (borrow:Int) (i:Int) (c3_0:Int) (c3_1:Int) (c3_2:Int) (c3_3:Int) : Option (Int×Int×Int×Int) :=
 bif (decide (i < (4:Int))) then
 guardF (0 ≤ i ∧ i < (4:Int)) <|
 pickF i
 [(bif (decide (a_0 < b_0)) then
 go ((1:Int),(i64.wrap (i + (1:Int))),(u64.wrap ((u64.wrap (a_0 - b_0)) - borrow)),c3_1,c3_2,c3_3)
 else
 bif (decide ((u64.wrap (a_0 - b_0)) < borrow)) then
 go ((1:Int),(i64.wrap (i + (1:Int))),(u64.wrap ((u64.wrap (a_0 - b_0)) - borrow)),c3_1,c3_2,c3_3)
 else
 go ((0:Int),(i64.wrap (i + (1:Int))),(u64.wrap ((u64.wrap (a_0 - b_0)) - borrow)),c3_1,c3_2,c3_3)),
 (bif (decide (a_1 < b_1)) then
 go ((1:Int),(i64.wrap (i + (1:Int))),c3_0,(u64.wrap ((u64.wrap (a_1 - b_1)) - borrow)),c3_2,c3_3)
 else
 bif (decide ((u64.wrap (a_1 - b_1)) < borrow)) then
 go ((1:Int),(i64.wrap (i + (1:Int))),c3_0,(u64.wrap ((u64.wrap (a_1 - b_1)) - borrow)),c3_2,c3_3)
 else
 go ((0:Int),(i64.wrap (i + (1:Int))),c3_0,(u64.wrap ((u64.wrap (a_1 - b_1)) - borrow)),c3_2,c3_3)),
 (bif (decide (a_2 < b_2)) then
 go ((1:Int),(i64.wrap (i + (1:Int))),c3_0,c3_1,(u64.wrap ((u64.wrap (a_2 - b_2)) - borrow)),c3_3)
 else
 bif (decide ((u64.wrap (a_2 - b_2)) < borrow)) then
 go ((1:Int),(i64.wrap (i + (1:Int))),c3_0,c3_1,(u64.wrap ((u64.wrap (a_2 - b_2)) - borrow)),c3_3)
 else
 go ((0:Int),(i64.wrap (i + (1:Int))),c3_0,c3_1,(u64.wrap ((u64.wrap (a_2 - b_2)) - borrow)),c3_3)),
 (bif (decide (a_3 < b_3)) then
 go ((1:Int),(i64.wrap (i + (1:Int))),c3_0,c3_1,c3_2,(u64.wrap ((u64.wrap (a_3 - b_3)) - borrow)))
 else
 bif (decide ((u64.wrap (a_3 - b_3)) < borrow)) then
 go ((1:Int),(i64.wrap (i + (1:Int))),c3_0,c3_1,c3_2,(u64.wrap ((u64.wrap (a_3 - b_3)) - borrow)))
 else
 go ((0:Int),(i64.wrap (i + (1:Int))),c3_0,c3_1,c3_2,(u64.wrap ((u64.wrap (a_3 - b_3)) - borrow))))]
 else
 some (c3_0,c3_1,c3_2,c3_3)
def f192 (a_0:Int) (a_1:Int) (a_2:Int) (a_3:Int) (b_0:Int) (b_1:Int) (b_2:Int) (b_3:Int) : Option (Int×Int×Int×Int) :=
 bindF (loopF (fun go x=>f192_l1 a_0 a_1 a_2 a_3 b_0 b_1 b_2 b_3 go x.1 x.2.1 x.2.2.1 x.2.2.2.1 x.2.2.2.2.1 x.2.2.2.2.2) fuelN ((0:Int),(0:Int),(0:Int),(0:Int),(0:Int),(0:Int))) fun z3 =>
 some (z3.1,z3.2.1,z3.2.2.1,z3.2.2.2)
def C192 : Con where
 X := Int×Int×Int×Int×Int×Int×Int×Int
 Y := Int×Int×Int×Int
 e := 0
 args x := [.raw true [(.d T4 x.1),(.d T4 x.2.1),(.d T4 x.2.2.1),(.d T4 x.2.2.2.1)],.raw true [(.d T4 x.2.2.2.2.1),(.d T4 x.2.2.2.2.2.1),(.d T4 x.2.2.2.2.2.2.1),(.d T4 x.2.2.2.2.2.2.2)]]
 hin x := []
 F x := f192 x.1 x.2.1 x.2.2.1 x.2.2.2.1 x.2.2.2.2.1 x.2.2.2.2.2.1 x.2.2.2.2.2.2.1 x.2.2.2.2.2.2.2
 ret y := [.raw true [(.d T4 y.1),(.d T4 y.2.1),(.d T4 y.2.2.1),(.d T4 y.2.2.2)]]
 hout y := []
 nout := 0
theorem C192_vc (a_0:Int) (a_1:Int) (a_2:Int) (a_3:Int) (b_0:Int) (b_1:Int) (b_2:Int) (b_3:Int) (y : Int×Int×Int×Int) (q : f192 a_0 a_1 a_2 a_3 b_0 b_1 b_2 b_3 = some y) : VC Tryz.f192 C192 (a_0,a_1,a_2,a_3,b_0,b_1,b_2,b_3) y := by
 unfold f192 at q
 refine OL (OL (OL (OL (OL ?_))))
 obtain ⟨z3,hz3,q⟩ := bE q
 refine lI (Int×Int×Int×Int×Int×Int) (Int×Int×Int×Int) (fun x=>⟨[(2,P0 0 0),(3,P0 1 0),(4,P0 2 0),(5,P0 3 0),(6,.dat T4 x.1),(7,.dat T2 x.2.1)],[(0,.cells [(.d T4 a_0),(.d T4 a_1),(.d T4 a_2),(.d T4 a_3)]),(1,.cells [(.d T4 b_0),(.d T4 b_1),(.d T4 b_2),(.d T4 b_3)]),(2,.cells [(.d T4 (0:Int)),(.d T4 (0:Int)),(.d T4 (0:Int)),(.d T4 (0:Int))]),(3,.cells [(.d T4 x.2.2.1),(.d T4 x.2.2.2.1),(.d T4 x.2.2.2.2.1),(.d T4 x.2.2.2.2.2)])],4⟩) (fun z=>[(2,⟨[(4,P0 0 0),(5,P0 1 0)],[(0,.cells [(.d T4 (0:Int)),(.d T4 (0:Int)),(.d T4 (0:Int)),(.d T4 (0:Int))]),(1,.cells [(.d T4 z.1),(.d T4 z.2.1),(.d T4 z.2.2.1),(.d T4 z.2.2.2)])],2⟩)]) (loopF (fun go x=>f192_l1 a_0 a_1 a_2 a_3 b_0 b_1 b_2 b_3 go x.1 x.2.1 x.2.2.1 x.2.2.2.1 x.2.2.2.2.1 x.2.2.2.2.2)) fuelN ((0:Int),(0:Int),(0:Int),(0:Int),(0:Int),(0:Int)) z3 (AI hz3 (AI (E4 I4 (R3 (AI (R4 TV) (R4 TV)))) (AI (fun _ _ h=>lZ h) (AI (fun m=>curI (fun borrow=>curI (fun i=>curI (fun c3_0=>curI (fun c3_1=>curI (fun c3_2=>fun c3_3 z q=>?_)))))) ?_))))
 ·have q : f192_l1 a_0 a_1 a_2 a_3 b_0 b_1 b_2 b_3 (loopF (fun go x=>f192_l1 a_0 a_1 a_2 a_3 b_0 b_1 b_2 b_3 go x.1 x.2.1 x.2.2.1 x.2.2.2.1 x.2.2.2.2.1 x.2.2.2.2.2) m) borrow i c3_0 c3_1 c3_2 c3_3 = some z := q
  unfold f192_l1 at q
  refine OL (OL (cI q (fun q=>?_) (fun q=>?_)))
  ·refine OL (OL (EI (.take 0 (.take 1 (.take 2 (.take 3 (.take 4 (.take 5 (.take 6 (.take 7 .done)))))))) (EI [] (EI [] (AI rfl (gI q (fun q=>?_)))))))
   refine AI (fun hk4=>?_) ?_
   ·have q := pickE q hk4
    dsimp only [nthO] at q
    refine AI (rE hk4 (by decide)) (AI (fun _=>?_) (AI (fun h=>absurd (hk4.symm.trans h) (by decide)) (AI (fun h=>absurd (hk4.symm.trans h) (by decide)) (AI (fun h=>absurd (hk4.symm.trans h) (by decide)) TV))))
    refine OL (OL (AI (rE hk4 (by decide)) (AI (fun _=>?_) (AI (fun h=>absurd (hk4.symm.trans h) (by decide)) (AI (fun h=>absurd (hk4.symm.trans h) (by decide)) (AI (fun h=>absurd (hk4.symm.trans h) (by decide)) TV))))))
    refine OL (OL (EI (.take 0 (.take 1 (.take 2 (.take 3 (.take 4 (.take 5 (.take 6 (.take 7 (.take 8 (.take 9 (.take 10 (.take 11 .done)))))))))))) (EI [] (EI [] (AI rfl (AI (rE hk4 (by decide)) (AI (fun _=>?_) (AI (fun h=>absurd (hk4.symm.trans h) (by decide)) (AI (fun h=>absurd (hk4.symm.trans h) (by decide)) (AI (fun h=>absurd (hk4.symm.trans h) (by decide)) TV))))))))))
    refine AI (rE hk4 (by decide)) (AI (fun _=>?_) (AI (fun h=>absurd (hk4.symm.trans h) (by decide)) (AI (fun h=>absurd (hk4.symm.trans h) (by decide)) (AI (fun h=>absurd (hk4.symm.trans h) (by decide)) TV))))
    refine cN q (fun q=>?_) (fun q=>?_)
    ·refine gY (gY (cF (cI q (fun q=>?_) (fun q=>?_))))
     ·refine EI ((1:Int),(i64.wrap (i + (1:Int))),(u64.wrap ((u64.wrap (a_0 - b_0)) - borrow)),c3_1,c3_2,c3_3) (AI q (E4 I4 (R3 (AI (R4 TV) (R4 TV)))))
     refine EI ((0:Int),(i64.wrap (i + (1:Int))),(u64.wrap ((u64.wrap (a_0 - b_0)) - borrow)),c3_1,c3_2,c3_3) (AI q (E4 I4 (R3 (AI (R4 TV) (R4 TV)))))
    refine gN (gN (cT (cT (EI ((1:Int),(i64.wrap (i + (1:Int))),(u64.wrap ((u64.wrap (a_0 - b_0)) - borrow)),c3_1,c3_2,c3_3) (AI q (E4 I4 (R3 (AI (R4 TV) (R4 TV)))))))))
   refine AI (fun hk4=>?_) ?_
   ·have q := pickE q hk4
    dsimp only [nthO] at q
    refine AI (rE hk4 (by decide)) (AI (fun h=>absurd (hk4.symm.trans h) (by decide)) ?_)
    refine AI (fun _=>?_) (AI (fun h=>absurd (hk4.symm.trans h) (by decide)) (AI (fun h=>absurd (hk4.symm.trans h) (by decide)) TV))
    refine OL (OL (AI (rE hk4 (by decide)) (AI (fun h=>absurd (hk4.symm.trans h) (by decide)) ?_)))
    refine AI (fun _=>?_) (AI (fun h=>absurd (hk4.symm.trans h) (by decide)) (AI (fun h=>absurd (hk4.symm.trans h) (by decide)) TV))
    refine OL (OL (EI (.take 0 (.take 1 (.take 2 (.take 3 (.take 4 (.take 5 (.take 6 (.take 7 (.take 8 (.take 9 (.take 10 (.take 11 .done)))))))))))) (EI [] (EI [] (AI rfl (AI (rE hk4 (by decide)) (AI (fun h=>absurd (hk4.symm.trans h) (by decide)) ?_)))))))
    refine AI (fun _=>?_) (AI (fun h=>absurd (hk4.symm.trans h) (by decide)) (AI (fun h=>absurd (hk4.symm.trans h) (by decide)) TV))
    refine AI (rE hk4 (by decide)) (AI (fun h=>absurd (hk4.symm.trans h) (by decide)) ?_)
    refine AI (fun _=>?_) (AI (fun h=>absurd (hk4.symm.trans h) (by decide)) (AI (fun h=>absurd (hk4.symm.trans h) (by decide)) TV))
    refine cN q (fun q=>?_) (fun q=>?_)
    ·refine gY (gY (cF (cI q (fun q=>?_) (fun q=>?_))))
     ·refine EI ((1:Int),(i64.wrap (i + (1:Int))),c3_0,(u64.wrap ((u64.wrap (a_1 - b_1)) - borrow)),c3_2,c3_3) (AI q (E4 I4 (R3 (AI (R4 TV) (R4 TV)))))
     refine EI ((0:Int),(i64.wrap (i + (1:Int))),c3_0,(u64.wrap ((u64.wrap (a_1 - b_1)) - borrow)),c3_2,c3_3) (AI q (E4 I4 (R3 (AI (R4 TV) (R4 TV)))))
    refine gN (gN (cT (cT (EI ((1:Int),(i64.wrap (i + (1:Int))),c3_0,(u64.wrap ((u64.wrap (a_1 - b_1)) - borrow)),c3_2,c3_3) (AI q (E4 I4 (R3 (AI (R4 TV) (R4 TV)))))))))
   refine AI (fun hk4=>?_) ?_
   ·have q := pickE q hk4
    dsimp only [nthO] at q
    refine AI (rE hk4 (by decide)) (AI (fun h=>absurd (hk4.symm.trans h) (by decide)) ?_)
    refine AI (fun h=>absurd (hk4.symm.trans h) (by decide)) ?_
    refine AI (fun _=>?_) (AI (fun h=>absurd (hk4.symm.trans h) (by decide)) TV)
    refine OL (OL (AI (rE hk4 (by decide)) (AI (fun h=>absurd (hk4.symm.trans h) (by decide)) ?_)))
    refine AI (fun h=>absurd (hk4.symm.trans h) (by decide)) ?_
    refine AI (fun _=>?_) (AI (fun h=>absurd (hk4.symm.trans h) (by decide)) TV)
    refine OL (OL (EI (.take 0 (.take 1 (.take 2 (.take 3 (.take 4 (.take 5 (.take 6 (.take 7 (.take 8 (.take 9 (.take 10 (.take 11 .done)))))))))))) (EI [] (EI [] (AI rfl (AI (rE hk4 (by decide)) (AI (fun h=>absurd (hk4.symm.trans h) (by decide)) ?_)))))))
    refine AI (fun h=>absurd (hk4.symm.trans h) (by decide)) ?_
    refine AI (fun _=>?_) (AI (fun h=>absurd (hk4.symm.trans h) (by decide)) TV)
    refine AI (rE hk4 (by decide)) (AI (fun h=>absurd (hk4.symm.trans h) (by decide)) ?_)
    refine AI (fun h=>absurd (hk4.symm.trans h) (by decide)) ?_
    refine AI (fun _=>?_) (AI (fun h=>absurd (hk4.symm.trans h) (by decide)) TV)
    refine cN q (fun q=>?_) (fun q=>?_)
    ·refine gY (gY (cF (cI q (fun q=>?_) (fun q=>?_))))
     ·refine EI ((1:Int),(i64.wrap (i + (1:Int))),c3_0,c3_1,(u64.wrap ((u64.wrap (a_2 - b_2)) - borrow)),c3_3) (AI q (E4 I4 (R3 (AI (R4 TV) (R4 TV)))))
     refine EI ((0:Int),(i64.wrap (i + (1:Int))),c3_0,c3_1,(u64.wrap ((u64.wrap (a_2 - b_2)) - borrow)),c3_3) (AI q (E4 I4 (R3 (AI (R4 TV) (R4 TV)))))
    refine gN (gN (cT (cT (EI ((1:Int),(i64.wrap (i + (1:Int))),c3_0,c3_1,(u64.wrap ((u64.wrap (a_2 - b_2)) - borrow)),c3_3) (AI q (E4 I4 (R3 (AI (R4 TV) (R4 TV)))))))))
   refine AI (fun hk4=>?_) TV
   have q := pickE q hk4
   dsimp only [nthO] at q
   refine AI (rE hk4 (by decide)) (AI (fun h=>absurd (hk4.symm.trans h) (by decide)) ?_)
   refine AI (fun h=>absurd (hk4.symm.trans h) (by decide)) ?_
   refine AI (fun h=>absurd (hk4.symm.trans h) (by decide)) ?_
   refine AI (fun _=>?_) TV
   refine OL (OL (AI (rE hk4 (by decide)) (AI (fun h=>absurd (hk4.symm.trans h) (by decide)) ?_)))
   refine AI (fun h=>absurd (hk4.symm.trans h) (by decide)) ?_
   refine AI (fun h=>absurd (hk4.symm.trans h) (by decide)) ?_
   refine AI (fun _=>?_) TV
   refine OL (OL (EI (.take 0 (.take 1 (.take 2 (.take 3 (.take 4 (.take 5 (.take 6 (.take 7 (.take 8 (.take 9 (.take 10 (.take 11 .done)))))))))))) (EI [] (EI [] (AI rfl (AI (rE hk4 (by decide)) (AI (fun h=>absurd (hk4.symm.trans h) (by decide)) ?_)))))))
   refine AI (fun h=>absurd (hk4.symm.trans h) (by decide)) ?_
   refine AI (fun h=>absurd (hk4.symm.trans h) (by decide)) ?_
   refine AI (fun _=>?_) TV
   refine AI (rE hk4 (by decide)) (AI (fun h=>absurd (hk4.symm.trans h) (by decide)) ?_)
   refine AI (fun h=>absurd (hk4.symm.trans h) (by decide)) ?_
   refine AI (fun h=>absurd (hk4.symm.trans h) (by decide)) ?_
   refine AI (fun _=>?_) TV
   refine cN q (fun q=>?_) (fun q=>?_)
   ·refine gY (gY (cF (cI q (fun q=>?_) (fun q=>?_))))
    ·refine EI ((1:Int),(i64.wrap (i + (1:Int))),c3_0,c3_1,c3_2,(u64.wrap ((u64.wrap (a_3 - b_3)) - borrow))) (AI q (E4 I4 (R3 (AI (R4 TV) (R4 TV)))))
    refine EI ((0:Int),(i64.wrap (i + (1:Int))),c3_0,c3_1,c3_2,(u64.wrap ((u64.wrap (a_3 - b_3)) - borrow))) (AI q (E4 I4 (R3 (AI (R4 TV) (R4 TV)))))
   refine gN (gN (cT (cT (EI ((1:Int),(i64.wrap (i + (1:Int))),c3_0,c3_1,c3_2,(u64.wrap ((u64.wrap (a_3 - b_3)) - borrow))) (AI q (E4 I4 (R3 (AI (R4 TV) (R4 TV)))))))))
  cases sE q
  refine E4 [(0,some 2),(1,some 3)] (AI rfl (AI (R2 TV) (R2 TV)))
 refine AI (OL (OL ?_)) TV
 cases sE q
 refine AI rfl (E4 [] (AI rfl (AJ TV)))
theorem C192_holds : HP C192 192 := hH Tryz.f192 (by kernel_rfl) rfl (fun x y q=>C192_vc x.1 x.2.1 x.2.2.1 x.2.2.2.1 x.2.2.2.2.1 x.2.2.2.2.2.1 x.2.2.2.2.2.2.1 x.2.2.2.2.2.2.2 y q)
theorem f192_in : InP 192 := inP (by kernel_rfl)
def f139 (a_Neg : Bool) (a_M_0:Int) (a_M_1:Int) (a_M_2:Int) (a_M_3:Int) (b_Neg : Bool) (b_M_0:Int) (b_M_1:Int) (b_M_2:Int) (b_M_3:Int) : Option (Bool×Int×Int×Int×Int) :=
 bif (a_Neg == b_Neg) then
 bindF (f182 a_M_0 a_M_1 a_M_2 a_M_3 b_M_0 b_M_1 b_M_2 b_M_3) fun q2_6 =>
 some (a_Neg,q2_6.1,q2_6.2.1,q2_6.2.2.1,q2_6.2.2.2)
 else
 bindF (f191 a_M_0 a_M_1 a_M_2 a_M_3 b_M_0 b_M_1 b_M_2 b_M_3) fun q2_8 =>
 bif q2_8 then
 bindF (f192 b_M_0 b_M_1 b_M_2 b_M_3 a_M_0 a_M_1 a_M_2 a_M_3) fun q4_6 =>
 some (b_Neg,q4_6.1,q4_6.2.1,q4_6.2.2.1,q4_6.2.2.2)
 else
 bindF (f192 a_M_0 a_M_1 a_M_2 a_M_3 b_M_0 b_M_1 b_M_2 b_M_3) fun q5_6 =>
 some (a_Neg,q5_6.1,q5_6.2.1,q5_6.2.2.1,q5_6.2.2.2)
def C139 : Con where
 X := Bool×Int×Int×Int×Int×Bool×Int×Int×Int×Int
 Y := Bool×Int×Int×Int×Int
 e := 0
 args x := [.raw true [(.d .bool x.1),(.d T4 x.2.1),(.d T4 x.2.2.1),(.d T4 x.2.2.2.1),(.d T4 x.2.2.2.2.1)],.raw true [(.d .bool x.2.2.2.2.2.1),(.d T4 x.2.2.2.2.2.2.1),(.d T4 x.2.2.2.2.2.2.2.1),(.d T4 x.2.2.2.2.2.2.2.2.1),(.d T4 x.2.2.2.2.2.2.2.2.2)]]
 hin x := []
 F x := f139 x.1 x.2.1 x.2.2.1 x.2.2.2.1 x.2.2.2.2.1 x.2.2.2.2.2.1 x.2.2.2.2.2.2.1 x.2.2.2.2.2.2.2.1 x.2.2.2.2.2.2.2.2.1 x.2.2.2.2.2.2.2.2.2
 ret y := [.raw true [(.d .bool y.1),(.d T4 y.2.1),(.d T4 y.2.2.1),(.d T4 y.2.2.2.1),(.d T4 y.2.2.2.2)]]
 hout y := []
 nout := 0
theorem C139_vc (a_Neg : Bool) (a_M_0:Int) (a_M_1:Int) (a_M_2:Int) (a_M_3:Int) (b_Neg : Bool) (b_M_0:Int) (b_M_1:Int) (b_M_2:Int) (b_M_3:Int) (y : Bool×Int×Int×Int×Int) (q : f139 a_Neg a_M_0 a_M_1 a_M_2 a_M_3 b_Neg b_M_0 b_M_1 b_M_2 b_M_3 = some y) : VC Tryz.f139 C139 (a_Neg,a_M_0,a_M_1,a_M_2,a_M_3,b_Neg,b_M_0,b_M_1,b_M_2,b_M_3) y := by
 unfold f139 at q
 refine OL (OL (OL (cI q (fun q=>?_) (fun q=>?_))))
 ·refine OL (EI (.take 0 (.take 1 (.take 2 (.take 3 (.take 4 (.take 5 (.alt 6 (.take 7 (.alt 8 .done .done)) .done))))))) (EI [] (EI [] (AI rfl (AI TV ?_)))))
  obtain ⟨q2_6,hq2_6,q⟩ := bE q
  refine OL (AI f182_in (cV (cQ C182 (a_M_0,a_M_1,a_M_2,a_M_3,b_M_0,b_M_1,b_M_2,b_M_3) q2_6 [] false C182_holds hq2_6 rfl rfl (AI NH (R2 (AI (R2 TV) (AI TV (AI TV (OL ?_)))))))))
  cases sE q
  refine AI rfl (E4 [] (AI rfl (AJ TV)))
 refine OL (OL ?_)
 obtain ⟨q2_8,hq2_8,q⟩ := bE q
 refine OL (AI f191_in (cV (cQ C191 (a_M_0,a_M_1,a_M_2,a_M_3,b_M_0,b_M_1,b_M_2,b_M_3) q2_8 [] false C191_holds hq2_8 rfl rfl (AI NH (R2 (AI (R2 TV) (AI TV (cI q (fun q=>?_) (fun q=>?_)))))))))
 ·refine OL (EI (.take 0 (.take 1 (.take 2 (.take 3 (.take 4 (.take 5 (.alt 6 (.take 7 (.alt 8 .done .done)) .done))))))) (EI [] (EI [] (AI rfl (AI TV ?_)))))
  obtain ⟨q4_6,hq4_6,q⟩ := bE q
  refine OL (AI f192_in (cV (cQ C192 (b_M_0,b_M_1,b_M_2,b_M_3,a_M_0,a_M_1,a_M_2,a_M_3) q4_6 [] false C192_holds hq4_6 rfl rfl (AI NH (R2 (AI (R2 TV) (AI TV (AI TV (OL ?_)))))))))
  cases sE q
  refine AI rfl (E4 [] (AI rfl (AJ TV)))
 refine OL (EI (.take 0 (.take 1 (.take 2 (.take 3 (.take 4 (.take 5 (.alt 6 (.take 7 (.alt 8 .done .done)) .done))))))) (EI [] (EI [] (AI rfl (AI TV ?_)))))
 obtain ⟨q5_6,hq5_6,q⟩ := bE q
 refine OL (AI f192_in (cV (cQ C192 (a_M_0,a_M_1,a_M_2,a_M_3,b_M_0,b_M_1,b_M_2,b_M_3) q5_6 [] false C192_holds hq5_6 rfl rfl (AI NH (R2 (AI (R2 TV) (AI TV (AI TV (OL ?_)))))))))
 cases sE q
 refine AI rfl (E4 [] (AI rfl (AJ TV)))
theorem C139_holds : HP C139 139 := hH Tryz.f139 (by kernel_rfl) rfl (fun x y q=>C139_vc x.1 x.2.1 x.2.2.1 x.2.2.2.1 x.2.2.2.2.1 x.2.2.2.2.2.1 x.2.2.2.2.2.2.1 x.2.2.2.2.2.2.2.1 x.2.2.2.2.2.2.2.2.1 x.2.2.2.2.2.2.2.2.2 y q)
theorem f139_in : InP 139 := inP (by kernel_rfl)
def f120_j3 (a_M_0:Int) (a_M_1:Int) (a_M_2:Int) (a_M_3:Int) : Option Bool :=
 bif ((bitsOf IntKind.u64 (fun p q=>p ||| q) (bitsOf IntKind.u64 (fun p q=>p ||| q) a_M_1 a_M_2) a_M_3) != (0:Int)) then
 some true
 else
 some (decide (a_M_0 ≥ (9223372036854775808:Int)))
def f120_j2 (a_Neg : Bool) (a_M_0:Int) (a_M_1:Int) (a_M_2:Int) (a_M_3:Int) : Option (Sum Unit Int) :=
 bindF (f120_j3 a_M_0 a_M_1 a_M_2 a_M_3) fun z3 =>
 bif z3 then
 bif a_Neg then
 some (Sum.inr (-9223372036854775808:Int))
 else
 some (Sum.inr (9223372036854775807:Int))
 else
 some (Sum.inl ())
def f120 (a_Neg : Bool) (a_M_0:Int) (a_M_1:Int) (a_M_2:Int) (a_M_3:Int) : Option Int :=
 bindF (f120_j2 a_Neg a_M_0 a_M_1 a_M_2 a_M_3) fun z2 =>
 sumF z2 (fun z2a =>
 bif a_Neg then
 some (i64.wrap (0 - (i64.wrap a_M_0)))
 else
 some (i64.wrap a_M_0)) (fun z2b =>
 some z2b)
def C120 : Con where
 X := Bool×Int×Int×Int×Int
 Y := Int
 e := 0
 args x := [.raw true [(.d .bool x.1),(.d T4 x.2.1),(.d T4 x.2.2.1),(.d T4 x.2.2.2.1),(.d T4 x.2.2.2.2)]]
 hin x := []
 F x := f120 x.1 x.2.1 x.2.2.1 x.2.2.2.1 x.2.2.2.2
 ret y := [.dat T2 y]
 hout y := []
 nout := 0
theorem C120_vc (a_Neg : Bool) (a_M_0:Int) (a_M_1:Int) (a_M_2:Int) (a_M_3:Int) (y:Int) (q : f120 a_Neg a_M_0 a_M_1 a_M_2 a_M_3 = some y) : VC Tryz.f120 C120 (a_Neg,a_M_0,a_M_1,a_M_2,a_M_3) y := by
 unfold f120 at q
 refine OL ?_
 obtain ⟨z2,hz2,q⟩ := bE q
 refine OQ ⟨Sum.elim (fun z2a=>[(0,⟨[(1,P0 0 0)],[(0,.cells [(.d .bool a_Neg),(.d T4 a_M_0),(.d T4 a_M_1),(.d T4 a_M_2),(.d T4 a_M_3)])],1⟩)]) (fun z2b=>[(1,⟨[(2,.dat T2 z2b)],[],0⟩)]) z2,?_,?_⟩
 ·have q := hz2
  clear hz2
  unfold f120_j2 at q
  obtain ⟨z3,hz3,q⟩ := bE q
  refine OQ ⟨[(0,⟨[(1,P0 0 0),(20,.dat .bool z3)],[(0,.cells [(.d .bool a_Neg),(.d T4 a_M_0),(.d T4 a_M_1),(.d T4 a_M_2),(.d T4 a_M_3)])],1⟩)],?_,?_⟩
  ·have q := hz3
   clear hz3
   unfold f120_j3 at q
   refine AI (by decide) (AI (fun h=>absurd h (by decide)) ?_)
   refine AI (fun _=>?_) (AI (fun h=>absurd h (by decide)) (AI (fun h=>absurd h (by decide)) TV))
   refine AI (by decide) (AI (fun h=>absurd h (by decide)) ?_)
   refine AI (fun h=>absurd h (by decide)) ?_
   refine AI (fun _=>?_) (AI (fun h=>absurd h (by decide)) TV)
   refine AI (by decide) (AI (fun h=>absurd h (by decide)) ?_)
   refine AI (fun h=>absurd h (by decide)) ?_
   refine AI (fun h=>absurd h (by decide)) ?_
   refine AI (fun _=>?_) TV
   refine cN q (fun q=>?_) (fun q=>?_)
   ·refine gY (AI (by decide) (AI (fun _=>?_) (AI (fun h=>absurd h (by decide)) (AI (fun h=>absurd h (by decide)) (AI (fun h=>absurd h (by decide)) TV)))))
    refine gY (gY (cF ?_))
    cases sE q
    refine E4 [(0,some 0)] (R2 (AJ (AI rfl TV)))
   refine gN (gN (gN (cT ?_)))
   cases sE q
   refine E4 [(0,some 0)] (R2 (AJ (AI rfl TV)))
  refine AI (cI q (fun q=>?_) (fun q=>?_)) TV
  ·refine OL (OL (cI q (fun q=>?_) (fun q=>?_)))
   ·cases sE q
    refine OL (E4 [] (R2 (AI TV TV)))
   cases sE q
   refine OL (E4 [] (R2 (AI TV TV)))
  cases sE q
  refine E4 [(0,some 0)] (AI rfl (AJ (AI rfl TV)))
 rcases z2 with z2a | z2b
 ·dsimp only [sumF] at q
  refine AI (OL (OL (cI q (fun q=>?_) (fun q=>?_)))) TV
  ·refine OL (AI (by decide) (AI (fun _=>?_) (AI (fun h=>absurd h (by decide)) (AI (fun h=>absurd h (by decide)) (AI (fun h=>absurd h (by decide)) TV)))))
   cases sE q
   refine AI rfl (E4 [] (R2 (AI TV TV)))
  refine OL (AI (by decide) (AI (fun _=>?_) (AI (fun h=>absurd h (by decide)) (AI (fun h=>absurd h (by decide)) (AI (fun h=>absurd h (by decide)) TV)))))
  cases sE q
  refine AI rfl (E4 [] (R2 (AI TV TV)))
 dsimp only [sumF] at q
 refine AI ?_ TV
 cases sE q
 refine AI rfl (E4 [] (R2 (AI TV TV)))
theorem C120_holds : HP C120 120 := hH Tryz.f120 (by kernel_rfl) rfl (fun x y q=>C120_vc x.1 x.2.1 x.2.2.1 x.2.2.2.1 x.2.2.2.2 y q)
theorem f120_in : InP 120 := inP (by kernel_rfl)
def f129 (a:Int) (b:Int) : Option Int :=
 bindF (f87 a) fun r1 =>
 bindF (f87 b) fun r2 =>
 bindF (f139 r1.1 r1.2 (0:Int) (0:Int) (0:Int) r2.1 r2.2 (0:Int) (0:Int) (0:Int)) fun r3 =>
 bindF (f120 r3.1 r3.2.1 r3.2.2.1 r3.2.2.2.1 r3.2.2.2.2) fun r4 =>
 some r4
def C129 : Con where
 X := Int×Int
 Y := Int
 e := 0
 args x := [.dat T2 x.1,.dat T2 x.2]
 hin x := []
 F x := f129 x.1 x.2
 ret y := [.dat T2 y]
 hout y := []
 nout := 0
theorem C129_vc (a:Int) (b:Int) (y:Int) (q : f129 a b = some y) : VC Tryz.f129 C129 (a,b) y := by
 unfold f129 at q
 refine OL (OL ?_)
 obtain ⟨r1,hr1,q⟩ := bE q
 refine OL (AI f87_in (cV (cQ C87 a r1 [] false C87_holds hr1 rfl rfl (AI rfl (K0 ?_)))))
 obtain ⟨r2,hr2,q⟩ := bE q
 refine OL (AI f87_in (cV (cQ C87 b r2 [] false C87_holds hr2 rfl rfl (AI rfl (K0 ?_)))))
 obtain ⟨r3,hr3,q⟩ := bE q
 refine OL (AI f139_in (cV (cQ C139 (r1.1,r1.2,(0:Int),(0:Int),(0:Int),r2.1,r2.2,(0:Int),(0:Int),(0:Int)) r3 [] false C139_holds hr3 rfl rfl (AI NH (R2 (AI (R2 TV) (AI TV ?_)))))))
 obtain ⟨r4,hr4,q⟩ := bE q
 refine OL (AI f120_in (cV (cQ C120 (r3.1,r3.2.1,r3.2.2.1,r3.2.2.2.1,r3.2.2.2.2) r4 [] false C120_holds hr4 rfl rfl (AI NH (R2 (AJ (AI TV ?_)))))))
 cases sE q
 refine AI rfl (E4 [] (R2 (AI TV TV)))
theorem C129_holds : HP C129 129 := hH Tryz.f129 (by kernel_rfl) rfl (fun x y q=>C129_vc x.1 x.2 y q)
theorem f129_in : InP 129 := inP (by kernel_rfl)
def f184 (a_Neg : Bool) (a_M_0:Int) (a_M_1:Int) (a_M_2:Int) (a_M_3:Int) : Option (Bool×Int×Int×Int×Int) :=
 some ((!a_Neg),a_M_0,a_M_1,a_M_2,a_M_3)
def C184 : Con where
 X := Bool×Int×Int×Int×Int
 Y := Bool×Int×Int×Int×Int
 e := 0
 args x := [.raw true [(.d .bool x.1),(.d T4 x.2.1),(.d T4 x.2.2.1),(.d T4 x.2.2.2.1),(.d T4 x.2.2.2.2)]]
 hin x := []
 F x := f184 x.1 x.2.1 x.2.2.1 x.2.2.2.1 x.2.2.2.2
 ret y := [.raw true [(.d .bool y.1),(.d T4 y.2.1),(.d T4 y.2.2.1),(.d T4 y.2.2.2.1),(.d T4 y.2.2.2.2)]]
 hout y := []
 nout := 0
theorem C184_vc (a_Neg : Bool) (a_M_0:Int) (a_M_1:Int) (a_M_2:Int) (a_M_3:Int) (y : Bool×Int×Int×Int×Int) (q : f184 a_Neg a_M_0 a_M_1 a_M_2 a_M_3 = some y) : VC Tryz.f184 C184 (a_Neg,a_M_0,a_M_1,a_M_2,a_M_3) y := by
 unfold f184 at q
 refine OL (OL (OL ?_))
 cases sE q
 refine AI rfl (E4 [] (AI rfl (AJ TV)))
theorem C184_holds : HP C184 184 := hH Tryz.f184 (by kernel_rfl) rfl (fun x y q=>C184_vc x.1 x.2.1 x.2.2.1 x.2.2.2.1 x.2.2.2.2 y q)
theorem f184_in : InP 184 := inP (by kernel_rfl)
def f130 (a:Int) (b:Int) : Option Int :=
 bindF (f87 a) fun r1 =>
 bindF (f87 b) fun r2 =>
 bindF (f184 r2.1 r2.2 (0:Int) (0:Int) (0:Int)) fun r3 =>
 bindF (f139 r1.1 r1.2 (0:Int) (0:Int) (0:Int) r3.1 r3.2.1 r3.2.2.1 r3.2.2.2.1 r3.2.2.2.2) fun r4 =>
 bindF (f120 r4.1 r4.2.1 r4.2.2.1 r4.2.2.2.1 r4.2.2.2.2) fun r5 =>
 some r5
def C130 : Con where
 X := Int×Int
 Y := Int
 e := 0
 args x := [.dat T2 x.1,.dat T2 x.2]
 hin x := []
 F x := f130 x.1 x.2
 ret y := [.dat T2 y]
 hout y := []
 nout := 0
theorem C130_vc (a:Int) (b:Int) (y:Int) (q : f130 a b = some y) : VC Tryz.f130 C130 (a,b) y := by
 unfold f130 at q
 refine OL (OL ?_)
 obtain ⟨r1,hr1,q⟩ := bE q
 refine OL (AI f87_in (cV (cQ C87 a r1 [] false C87_holds hr1 rfl rfl (AI rfl (K0 ?_)))))
 obtain ⟨r2,hr2,q⟩ := bE q
 refine OL (AI f87_in (cV (cQ C87 b r2 [] false C87_holds hr2 rfl rfl (AI rfl (K0 ?_)))))
 obtain ⟨r3,hr3,q⟩ := bE q
 refine OL (AI f184_in (cV (cQ C184 (r2.1,r2.2,(0:Int),(0:Int),(0:Int)) r3 [] false C184_holds hr3 rfl rfl (AI NH (R2 (AJ (AI TV ?_)))))))
 obtain ⟨r4,hr4,q⟩ := bE q
 refine OL (AI f139_in (cV (cQ C139 (r1.1,r1.2,(0:Int),(0:Int),(0:Int),r3.1,r3.2.1,r3.2.2.1,r3.2.2.2.1,r3.2.2.2.2) r4 [] false C139_holds hr4 rfl rfl (AI NH (R2 (AI (R2 TV) (AI TV ?_)))))))
 obtain ⟨r5,hr5,q⟩ := bE q
 refine OL (AI f120_in (cV (cQ C120 (r4.1,r4.2.1,r4.2.2.1,r4.2.2.2.1,r4.2.2.2.2) r5 [] false C120_holds hr5 rfl rfl (AI NH (R2 (AJ (AI TV ?_)))))))
 cases sE q
 refine AI rfl (E4 [] (R2 (AI TV TV)))
theorem C130_holds : HP C130 130 := hH Tryz.f130 (by kernel_rfl) rfl (fun x y q=>C130_vc x.1 x.2 y q)
theorem f130_in : InP 130 := inP (by kernel_rfl)
def f179_l1 (r1:Int) (r2:Int) (go : (Int×Int×Int×Int×Int) → Option (Int×Int×Int×Int)) (v40:Int) (c1_0:Int) (c1_1:Int) (c1_2:Int) (c1_3:Int) : Option (Int×Int×Int×Int) :=
 bif (decide (v40 < (2:Int))) then
 guardF (0 ≤ v40 ∧ v40 < (2:Int)) <|
 pickF v40
 [(bindF (f182 c1_0 c1_1 c1_2 c1_3 (u64.wrap ((u64.wrap ((bitsOf IntKind.u64 (fun p q=>p &&& q) r1 (4294967295:Int)) * (Int.fdiv r2 (2 ^ min (Int.toNat (32:Int)) u64.bits)))) * 2 ^ min (Int.toNat (32:Int)) u64.bits)) (Int.fdiv (u64.wrap ((bitsOf IntKind.u64 (fun p q=>p &&& q) r1 (4294967295:Int)) * (Int.fdiv r2 (2 ^ min (Int.toNat (32:Int)) u64.bits)))) (2 ^ min (Int.toNat (32:Int)) u64.bits)) (0:Int) (0:Int)) fun r9 =>
 go ((i64.wrap (v40 + (1:Int))),r9.1,r9.2.1,r9.2.2.1,r9.2.2.2)),
 (bindF (f182 c1_0 c1_1 c1_2 c1_3 (u64.wrap ((u64.wrap ((Int.fdiv r1 (2 ^ min (Int.toNat (32:Int)) u64.bits)) * (bitsOf IntKind.u64 (fun p q=>p &&& q) r2 (4294967295:Int)))) * 2 ^ min (Int.toNat (32:Int)) u64.bits)) (Int.fdiv (u64.wrap ((Int.fdiv r1 (2 ^ min (Int.toNat (32:Int)) u64.bits)) * (bitsOf IntKind.u64 (fun p q=>p &&& q) r2 (4294967295:Int)))) (2 ^ min (Int.toNat (32:Int)) u64.bits)) (0:Int) (0:Int)) fun r10 =>
 go ((i64.wrap (v40 + (1:Int))),r10.1,r10.2.1,r10.2.2.1,r10.2.2.2))]
 else
 some (c1_0,c1_1,c1_2,c1_3)
def f179 (a:Int) (b:Int) : Option (Bool×Int×Int×Int×Int) :=
 bindF (f141 a) fun r1 =>
 bindF (f141 b) fun r2 =>
 bindF (loopF (fun go x=>f179_l1 r1 r2 go x.1 x.2.1 x.2.2.1 x.2.2.2.1 x.2.2.2.2) fuelN ((0:Int),(u64.wrap ((bitsOf IntKind.u64 (fun p q=>p &&& q) r1 (4294967295:Int)) * (bitsOf IntKind.u64 (fun p q=>p &&& q) r2 (4294967295:Int)))),(u64.wrap ((Int.fdiv r1 (2 ^ min (Int.toNat (32:Int)) u64.bits)) * (Int.fdiv r2 (2 ^ min (Int.toNat (32:Int)) u64.bits)))),(0:Int),(0:Int))) fun z7 =>
 some ((!((decide (a < (0:Int))) == (decide (b < (0:Int))))),z7.1,z7.2.1,z7.2.2.1,z7.2.2.2)
def C179 : Con where
 X := Int×Int
 Y := Bool×Int×Int×Int×Int
 e := 0
 args x := [.dat T2 x.1,.dat T2 x.2]
 hin x := []
 F x := f179 x.1 x.2
 ret y := [.raw true [(.d .bool y.1),(.d T4 y.2.1),(.d T4 y.2.2.1),(.d T4 y.2.2.2.1),(.d T4 y.2.2.2.2)]]
 hout y := []
 nout := 0
theorem C179_vc (a:Int) (b:Int) (y : Bool×Int×Int×Int×Int) (q : f179 a b = some y) : VC Tryz.f179 C179 (a,b) y := by
 unfold f179 at q
 refine OL (OL ?_)
 obtain ⟨r1,hr1,q⟩ := bE q
 refine OL (AI f141_in (cV (cQ C141 a r1 [] false C141_holds hr1 rfl rfl (AI rfl (K0 ?_)))))
 obtain ⟨r2,hr2,q⟩ := bE q
 refine OL (AI f141_in (cV (cQ C141 b r2 [] false C141_holds hr2 rfl rfl (AI rfl (K0 (OL (AI (by decide) (AI (by decide) (OL (OL (OL (OL ?_))))))))))))
 obtain ⟨z7,hz7,q⟩ := bE q
 refine lI (Int×Int×Int×Int×Int) (Int×Int×Int×Int) (fun x=>⟨[(0,.dat T2 a),(1,.dat T2 b),(4,P0 0 0),(11,P0 1 0),(39,.raw true [(.d T4 (u64.wrap ((bitsOf IntKind.u64 (fun p q=>p &&& q) r1 (4294967295:Int)) * (Int.fdiv r2 (2 ^ min (Int.toNat (32:Int)) u64.bits))))),(.d T4 (u64.wrap ((Int.fdiv r1 (2 ^ min (Int.toNat (32:Int)) u64.bits)) * (bitsOf IntKind.u64 (fun p q=>p &&& q) r2 (4294967295:Int)))))]),(40,.dat T2 x.1)],[(0,.cells [(.d .bool false),(.d T4 (0:Int)),(.d T4 (0:Int)),(.d T4 (0:Int)),(.d T4 (0:Int))]),(1,.cells [(.d T4 x.2.1),(.d T4 x.2.2.1),(.d T4 x.2.2.2.1),(.d T4 x.2.2.2.2)])],2⟩) (fun z=>[(2,⟨[(0,.dat T2 a),(1,.dat T2 b),(4,P0 0 0),(11,P0 1 0)],[(0,.cells [(.d .bool false),(.d T4 (0:Int)),(.d T4 (0:Int)),(.d T4 (0:Int)),(.d T4 (0:Int))]),(1,.cells [(.d T4 z.1),(.d T4 z.2.1),(.d T4 z.2.2.1),(.d T4 z.2.2.2)])],2⟩)]) (loopF (fun go x=>f179_l1 r1 r2 go x.1 x.2.1 x.2.2.1 x.2.2.2.1 x.2.2.2.2)) fuelN ((0:Int),(u64.wrap ((bitsOf IntKind.u64 (fun p q=>p &&& q) r1 (4294967295:Int)) * (bitsOf IntKind.u64 (fun p q=>p &&& q) r2 (4294967295:Int)))),(u64.wrap ((Int.fdiv r1 (2 ^ min (Int.toNat (32:Int)) u64.bits)) * (Int.fdiv r2 (2 ^ min (Int.toNat (32:Int)) u64.bits)))),(0:Int),(0:Int)) z7 (AI hz7 (AI (E4 I2 (R4 (AI (R3 TV) (R2 TV)))) (AI (fun _ _ h=>lZ h) (AI (fun m=>curI (fun v40=>curI (fun c1_0=>curI (fun c1_1=>curI (fun c1_2=>fun c1_3 z q=>?_))))) ?_))))
 ·have q : f179_l1 r1 r2 (loopF (fun go x=>f179_l1 r1 r2 go x.1 x.2.1 x.2.2.1 x.2.2.2.1 x.2.2.2.2) m) v40 c1_0 c1_1 c1_2 c1_3 = some z := q
  unfold f179_l1 at q
  refine OL (OL (cI q (fun q=>?_) (fun q=>?_)))
  ·refine OL (OL (gI q (fun q=>?_)))
   refine AI (fun hk8=>?_) ?_
   ·have q := pickE q hk8
    dsimp only [nthO] at q
    refine AI (by decide) (AI (by decide) ?_)
    obtain ⟨r9,hr9,q⟩ := bE q
    refine OL (AI f182_in (cV (cQ C182 (c1_0,c1_1,c1_2,c1_3,(u64.wrap ((u64.wrap ((bitsOf IntKind.u64 (fun p q=>p &&& q) r1 (4294967295:Int)) * (Int.fdiv r2 (2 ^ min (Int.toNat (32:Int)) u64.bits)))) * 2 ^ min (Int.toNat (32:Int)) u64.bits)),(Int.fdiv (u64.wrap ((bitsOf IntKind.u64 (fun p q=>p &&& q) r1 (4294967295:Int)) * (Int.fdiv r2 (2 ^ min (Int.toNat (32:Int)) u64.bits)))) (2 ^ min (Int.toNat (32:Int)) u64.bits)),(0:Int),(0:Int)) r9 [] false C182_holds hr9 rfl rfl ?_)))
    refine AI NH (R2 (AI (R2 TV) (AI TV (OL (EI ((i64.wrap (v40 + (1:Int))),r9.1,r9.2.1,r9.2.2.1,r9.2.2.2) (AI q (E4 I2 (R4 (AI (R3 TV) (R2 TV))))))))))
   refine AI (fun hk8=>?_) TV
   have q := pickE q hk8
   dsimp only [nthO] at q
   refine AI (by decide) (AI (by decide) ?_)
   obtain ⟨r10,hr10,q⟩ := bE q
   refine OL (AI f182_in (cV (cQ C182 (c1_0,c1_1,c1_2,c1_3,(u64.wrap ((u64.wrap ((Int.fdiv r1 (2 ^ min (Int.toNat (32:Int)) u64.bits)) * (bitsOf IntKind.u64 (fun p q=>p &&& q) r2 (4294967295:Int)))) * 2 ^ min (Int.toNat (32:Int)) u64.bits)),(Int.fdiv (u64.wrap ((Int.fdiv r1 (2 ^ min (Int.toNat (32:Int)) u64.bits)) * (bitsOf IntKind.u64 (fun p q=>p &&& q) r2 (4294967295:Int)))) (2 ^ min (Int.toNat (32:Int)) u64.bits)),(0:Int),(0:Int)) r10 [] false C182_holds hr10 rfl rfl ?_)))
   refine AI NH (R2 (AI (R2 TV) (AI TV (OL (EI ((i64.wrap (v40 + (1:Int))),r10.1,r10.2.1,r10.2.2.1,r10.2.2.2) (AI q (E4 I2 (R4 (AI (R3 TV) (R2 TV))))))))))
  cases sE q
  refine E4 I2 (R3 (AI (R2 TV) (R2 TV)))
 refine AI (OL (OL ?_)) TV
 cases sE q
 refine AI rfl (E4 [] (AI rfl (AJ TV)))
theorem C179_holds : HP C179 179 := hH Tryz.f179 (by kernel_rfl) rfl (fun x y q=>C179_vc x.1 x.2 y q)
theorem f179_in : InP 179 := inP (by kernel_rfl)
def f181 (m_0:Int) (m_1:Int) (m_2:Int) (m_3:Int) (i:Int) : Option Int :=
 guardF (0 ≤ (i64.wrap (Int.tdiv i (64:Int))) ∧ (i64.wrap (Int.tdiv i (64:Int))) < (4:Int)) <|
 pickF (i64.wrap (Int.tdiv i (64:Int)))
 [(guardF (0 ≤ (u64.wrap (Int.tmod i (64:Int)))) <|
 some (bitsOf IntKind.u64 (fun p q=>p &&& q) (Int.fdiv m_0 (2 ^ min (Int.toNat (u64.wrap (Int.tmod i (64:Int)))) u64.bits)) (1:Int))),
 (guardF (0 ≤ (u64.wrap (Int.tmod i (64:Int)))) <|
 some (bitsOf IntKind.u64 (fun p q=>p &&& q) (Int.fdiv m_1 (2 ^ min (Int.toNat (u64.wrap (Int.tmod i (64:Int)))) u64.bits)) (1:Int))),
 (guardF (0 ≤ (u64.wrap (Int.tmod i (64:Int)))) <|
 some (bitsOf IntKind.u64 (fun p q=>p &&& q) (Int.fdiv m_2 (2 ^ min (Int.toNat (u64.wrap (Int.tmod i (64:Int)))) u64.bits)) (1:Int))),
 (guardF (0 ≤ (u64.wrap (Int.tmod i (64:Int)))) <|
 some (bitsOf IntKind.u64 (fun p q=>p &&& q) (Int.fdiv m_3 (2 ^ min (Int.toNat (u64.wrap (Int.tmod i (64:Int)))) u64.bits)) (1:Int)))]
def C181 : Con where
 X := Int×Int×Int×Int×Int
 Y := Int
 e := 0
 args x := [.raw true [(.d T4 x.1),(.d T4 x.2.1),(.d T4 x.2.2.1),(.d T4 x.2.2.2.1)],.dat T2 x.2.2.2.2]
 hin x := []
 F x := f181 x.1 x.2.1 x.2.2.1 x.2.2.2.1 x.2.2.2.2
 ret y := [.dat T4 y]
 hout y := []
 nout := 0
theorem C181_vc (m_0:Int) (m_1:Int) (m_2:Int) (m_3:Int) (i:Int) (y:Int) (q : f181 m_0 m_1 m_2 m_3 i = some y) : VC Tryz.f181 C181 (m_0,m_1,m_2,m_3,i) y := by
 unfold f181 at q
 refine OL (OL (AI (by decide) (gI q (fun q=>?_))))
 refine AI (fun hk1=>?_) ?_
 ·have q := pickE q hk1
  dsimp only [nthO] at q
  refine AI (by decide) (gI q (fun q=>?_))
  cases sE q
  refine AI rfl (E4 [] (R2 (AI TV TV)))
 refine AI (fun hk1=>?_) ?_
 ·have q := pickE q hk1
  dsimp only [nthO] at q
  refine AI (by decide) (gI q (fun q=>?_))
  cases sE q
  refine AI rfl (E4 [] (R2 (AI TV TV)))
 refine AI (fun hk1=>?_) ?_
 ·have q := pickE q hk1
  dsimp only [nthO] at q
  refine AI (by decide) (gI q (fun q=>?_))
  cases sE q
  refine AI rfl (E4 [] (R2 (AI TV TV)))
 refine AI (fun hk1=>?_) TV
 have q := pickE q hk1
 dsimp only [nthO] at q
 refine AI (by decide) (gI q (fun q=>?_))
 cases sE q
 refine AI rfl (E4 [] (R2 (AI TV TV)))
theorem C181_holds : HP C181 181 := hH Tryz.f181 (by kernel_rfl) rfl (fun x y q=>C181_vc x.1 x.2.1 x.2.2.1 x.2.2.2.1 x.2.2.2.2 y q)
theorem f181_in : InP 181 := inP (by kernel_rfl)
end Go.Proofs
