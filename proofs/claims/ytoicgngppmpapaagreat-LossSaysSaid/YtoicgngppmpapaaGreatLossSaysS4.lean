import Derived.Test.YtoicgngppmpapaaGreatLossSaysS3
set_option linter.unusedVariables false
set_option maxRecDepth 100000
set_option maxHeartbeats 8000000
namespace Go.Proofs
open Go.AM
open IntKind (i64 u64 i32 u32 i16 u16 i8 u8)
def f23_j1 (t_L : NL) (kind:Int) (out:Int) (want : LI) : Option (Sum Unit Unit) :=
 bif (decide (out < (0:Int))) then
 some (Sum.inr ())
 else
 bif (decide (out ≥ (List.length t_L:Int))) then
 some (Sum.inr ())
 else
 bif (kind != (3:Int)) then
 guardF (0 ≤ out ∧ out < (List.length t_L:Int)) <|
 bif ((List.length want:Int) != (List.length ((((((rd (Ty.z T0) t_L out).2).2).2).2).2):Int)) then
 some (Sum.inr ())
 else
 some (Sum.inl ())
 else
 some (Sum.inl ())
def f23_j2 (t_L : NL) (kind:Int) (out:Int) (class_:Int) : Option (Sum Unit Unit) :=
 bif ((List.length ((((((rd (Ty.z T0) t_L out).2).2).2).2).1):Int) != (1:Int)) then
 some (Sum.inr ())
 else
 bif (kind == (3:Int)) then
 bif (decide (class_ < (0:Int))) then
 some (Sum.inr ())
 else
 guardF (0 ≤ (0:Int) ∧ (0:Int) < (List.length ((((((rd (Ty.z T0) t_L out).2).2).2).2).1):Int)) <|
 bif (decide (class_ ≥ (rd (0:Int) ((((((rd (Ty.z T0) t_L out).2).2).2).2).1) (0:Int)))) then
 some (Sum.inr ())
 else
 some (Sum.inl ())
 else
 some (Sum.inl ())
def f23_j3 (out:Int) (r3 : Int×Int×NL) : Option (Int×Int×NL) :=
 bif (r3.2.1 == (0:Int)) then
 bindF (f70 r3.2.2 (3:Int) out r3.1 (0:Int)) fun r6 =>
 some (r6.1,r6.2.1,r6.2.2)
 else
 some (r3.1,r3.2.1,r3.2.2)
def f23_j6 (kind:Int) (z5 : Int×Int×NL) : Option Bool :=
 bif (z5.2.1 == (0:Int)) then
 some (kind == (1:Int))
 else
 some false
def f23_j5 (kind:Int) (z5 : Int×Int×NL) : Option (Int×Int×NL) :=
 bindF (f23_j6 kind z5) fun z10 =>
 bif z10 then
 bindF (f70 z5.2.2 (4:Int) z5.1 z5.1 (0:Int)) fun r11 =>
 some (r11.1,r11.2.1,r11.2.2)
 else
 some (z5.1,z5.2.1,z5.2.2)
def f23_j9 (kind:Int) (z9 : Int×Int×NL) : Option Bool :=
 bif (z9.2.1 == (0:Int)) then
 some (kind == (2:Int))
 else
 some false
def f23_j8 (kind:Int) (z9 : Int×Int×NL) : Option (Int×Int×NL) :=
 bindF (f23_j9 kind z9) fun z15 =>
 bif z15 then
 bindF (f70 z9.2.2 (11:Int) z9.1 (-1:Int) (4:Int)) fun r16 =>
 some (r16.1,r16.2.1,r16.2.2)
 else
 some (z9.1,z9.2.1,z9.2.2)
def f23_j10 (z14 : Int×Int×NL) : Option (Int×Int×NL) :=
 bif (z14.2.1 == (0:Int)) then
 bindF (f70 z14.2.2 (10:Int) z14.1 (-1:Int) (0:Int)) fun r19 =>
 some (r19.1,r19.2.1,r19.2.2)
 else
 some (z14.1,z14.2.1,z14.2.2)
def f23_j11 (class_:Int) (r21 : LI×LI) (r22 : Int×Int×NL) : Option (Int×Int×NL) :=
 bif (r22.2.1 == (0:Int)) then
 bindF (f19 r22.2.2 (r21.1,(List.set r21.2 (Int.toNat class_) (0:Int)))) fun r25 =>
 some (r25.2.1,r25.1,r25.2.2)
 else
 some (r22.2.1,(0:Int),r22.2.2)
def f23_j12 (out:Int) (r22 : Int×Int×NL) (z24 : Int×Int×NL) : Option (Int×Int×NL) :=
 bif (z24.1 == (0:Int)) then
 bindF (f70 z24.2.2 (4:Int) out r22.1 (0:Int)) fun r28 =>
 some (r28.2.1,r28.1,r28.2.2)
 else
 some (z24.1,(0:Int),z24.2.2)
def f23_j13 (z27 : Int×Int×NL) : Option (Int×Int×NL) :=
 bif (z27.1 == (0:Int)) then
 bindF (f70 z27.2.2 (9:Int) z27.2.1 (-1:Int) (0:Int)) fun r31 =>
 some (r31.2.1,r31.1,r31.2.2)
 else
 some (z27.1,z27.2.1,z27.2.2)
def f23_j14 (out:Int) (z30 : Int×Int×NL) : Option (Int×Int×NL) :=
 bif (z30.1 == (0:Int)) then
 bindF (f70 z30.2.2 (2:Int) out z30.2.1 (0:Int)) fun r34 =>
 some (r34.2.1,r34.1,r34.2.2)
 else
 some (z30.1,z30.2.1,z30.2.2)
def f23_j15 (z24 : Int×Int×NL) (z33 : Int×Int×NL) : Option (Int×Int×NL) :=
 bif (z33.1 == (0:Int)) then
 bindF (f70 z33.2.2 (2:Int) z33.2.1 z24.2.1 (0:Int)) fun r37 =>
 some (r37.2.1,r37.1,r37.2.2)
 else
 some (z33.1,z33.2.1,z33.2.2)
def f23_j16 (z36 : Int×Int×NL) : Option (Int×Int×NL) :=
 bif (z36.1 == (0:Int)) then
 bindF (f70 z36.2.2 (11:Int) z36.2.1 (-1:Int) (1:Int)) fun r40 =>
 some (r40.2.1,r40.1,r40.2.2)
 else
 some (z36.1,z36.2.1,z36.2.2)
def f23_j17 (z24 : Int×Int×NL) (z39 : Int×Int×NL) : Option (Int×Int×NL) :=
 bif (z39.1 == (0:Int)) then
 bindF (f70 z39.2.2 (4:Int) z39.2.1 z24.2.1 (0:Int)) fun r43 =>
 some (r43.2.1,r43.1,r43.2.2)
 else
 some (z39.1,z39.2.1,z39.2.2)
def f23_j18 (z42 : Int×Int×NL) : Option (Int×Int×NL) :=
 bif (z42.1 == (0:Int)) then
 bindF (f70 z42.2.2 (9:Int) z42.2.1 (-1:Int) (0:Int)) fun r46 =>
 some (r46.2.1,r46.1,r46.2.2)
 else
 some (z42.1,z42.2.1,z42.2.2)
def f23 (t_L : NL) (kind:Int) (out:Int) (want : LI) (class_:Int) : Option (Int×Int×NL) :=
 bindF (f23_j1 t_L kind out want) fun z1 =>
 sumF z1 (fun z1a =>
 guardF (0 ≤ out ∧ out < (List.length t_L:Int)) <|
 bindF (f23_j2 t_L kind out class_) fun z2 =>
 sumF z2 (fun z2a =>
 bif (kind != (3:Int)) then
 bindF (f19 t_L ((((((rd (Ty.z T0) t_L out).2).2).2).2).1,want)) fun r3 =>
 bindF (f23_j3 out r3) fun z5 =>
 bindF (f23_j5 kind z5) fun z9 =>
 bindF (f23_j8 kind z9) fun z14 =>
 bindF (f23_j10 z14) fun z18 =>
 bif (z18.2.1 != (0:Int)) then
 some ((0:Int),z18.2.1,z18.2.2)
 else
 some (z18.1,(0:Int),z18.2.2)
 else
 bindF (f71 ((((((rd (Ty.z T0) t_L out).2).2).2).2).1) (0:Int)) fun r20 =>
 bindF (f71 ((((((rd (Ty.z T0) t_L out).2).2).2).2).1) (4294967296:Int)) fun r21 =>
 guardF (0 ≤ class_ ∧ class_ < (List.length r20.2:Int)) <|
 guardF (0 ≤ class_ ∧ class_ < (List.length r21.2:Int)) <|
 bindF (f19 t_L (r20.1,(List.set r20.2 (Int.toNat class_) (-4294967296:Int)))) fun r22 =>
 bindF (f23_j11 class_ r21 r22) fun z24 =>
 bindF (f23_j12 out r22 z24) fun z27 =>
 bindF (f23_j13 z27) fun z30 =>
 bindF (f23_j14 out z30) fun z33 =>
 bindF (f23_j15 z24 z33) fun z36 =>
 bindF (f23_j16 z36) fun z39 =>
 bindF (f23_j17 z24 z39) fun z42 =>
 bindF (f23_j18 z42) fun z45 =>
 bif (z45.1 != (0:Int)) then
 some ((0:Int),z45.1,z45.2.2)
 else
 some (z45.2.1,(0:Int),z45.2.2)) (fun z2b =>
 some ((0:Int),(4:Int),t_L))) (fun z1b =>
 some ((0:Int),(1:Int),t_L))
def C23 : Con where
 X := NL×Int×Int×LI×Int
 Y := Int×Int×NL
 e := 2
 args x := [P0 0 0,.dat T2 x.2.1,.dat T2 x.2.2.1,.dat T1 x.2.2.2.1,.dat T2 x.2.2.2.2]
 hin x := [(0,.cells [(.osl 1)]),(1,.arr 45 T0 x.1)]
 F x := f23 x.1 x.2.1 x.2.2.1 x.2.2.2.1 x.2.2.2.2
 ret y := [.dat T2 y.1,.dat T2 y.2.1]
 hout y := [(0,.cells [(.osl 2)]),(2,.arr 45 T0 y.2.2)]
 nout := 3
theorem C23_vc (t_L : NL) (kind:Int) (out:Int) (want : LI) (class_:Int) (y : Int×Int×NL) (q : f23 t_L kind out want class_ = some y) : VE Tryz.f23 2 C23 (t_L,kind,out,want,class_) y := by
 unfold f23 at q
 refine OL ?_
 obtain ⟨z1,hz1,q⟩ := bE q
 refine OQ ⟨Sum.elim (fun z1a=>[(0,⟨[(0,P0 0 0),(1,.dat T2 kind),(2,.dat T2 out),(3,.dat T1 want),(4,.dat T2 class_)],[(0,.cells [(.osl 1)]),(1,.arr 45 T0 t_L)],2⟩)]) (fun z1b=>[(1,⟨[(10,D0 0),(11,D0 1)],[(0,.cells [(.osl 1)]),(1,.arr 45 T0 t_L)],2⟩)]) z1,?_,?_⟩
 ·have q := hz1
  clear hz1
  unfold f23_j1 at q
  refine OL (cN q (fun q=>?_) (fun q=>?_))
  ·refine gY (gY (gY (gY (gY (gY (cF (cN q (fun q=>?_) (fun q=>?_))))))))
   ·refine gY (gY (cI q (fun q=>?_) (fun q=>?_)))
    ·refine gX (gX (gX (gX (gX (gX (gX (gI q (fun q=>?_))))))))
     refine gX (gX (gX (gX (gX (gY (cT (cF (cI q (fun q=>?_) (fun q=>?_)))))))))
     ·cases sE q
      refine OL (E4 I2 (R3 (AI TV (R2 TV))))
     cases sE q
     refine E4 I2 (R5 (AJ (R2 TV)))
    refine gM (gM (gM (gM (gM (gM (gM (gM (gM (gM (gM (gM (gY (cF (cF (cF ?_)))))))))))))))
    cases sE q
    refine E4 I2 (R5 (AJ (R2 TV)))
   refine gN (gN (gN (cT (cT (OL ?_)))))
   cases sE q
   refine E4 I2 (R3 (AI TV (R2 TV)))
  refine gN (gN (gN (gN (gN (gN (cT (gN (gN (gN (gN (cT (cT (OL ?_)))))))))))))
  cases sE q
  refine E4 I2 (R3 (AI TV (R2 TV)))
 rcases z1 with z1a | z1b
 ·dsimp only [sumF] at q
  refine AI (OL (gI q (fun q=>?_))) TV
  obtain ⟨z2,hz2,q⟩ := bE q
  refine OQ ⟨Sum.elim (fun z2a=>[(0,⟨[(0,P0 0 0),(1,.dat T2 kind),(2,.dat T2 out),(3,.dat T1 want),(4,.dat T2 class_),(12,.dat T1 ((((((rd (Ty.z T0) t_L out).2).2).2).2).1))],[(0,.cells [(.osl 1)]),(1,.arr 45 T0 t_L)],2⟩)]) (fun z2b=>[(1,⟨[(10,D0 0),(11,D0 4)],[(0,.cells [(.osl 1)]),(1,.arr 45 T0 t_L)],2⟩)]) z2,?_,?_⟩
  ·have q := hz2
   clear hz2
   unfold f23_j2 at q
   refine OL (cN q (fun q=>?_) (fun q=>?_))
   ·refine gY (gY (cI q (fun q=>?_) (fun q=>?_)))
    ·refine gX (gX (cN q (fun q=>?_) (fun q=>?_)))
     ·refine gY (gY (gI q (fun q=>?_)))
      refine gY (gY (gX (cF (gY (cT (cF (cI q (fun q=>?_) (fun q=>?_))))))))
      ·cases sE q
       refine OL (E4 I2 (R3 (AI TV (R2 TV))))
      cases sE q
      refine E4 I2 (R6 (AJ (R2 TV)))
     refine gN (gN (gN (gN (gX (cT (gY (cT (cF (cT (OL ?_))))))))))
     cases sE q
     refine E4 I2 (R3 (AI TV (R2 TV)))
    refine gM (gM (gM (gY (cF (cF (cF ?_))))))
    cases sE q
    refine E4 I2 (R6 (AJ (R2 TV)))
   refine gN (gN (gN (cT (cT (OL ?_)))))
   cases sE q
   refine E4 I2 (R3 (AI TV (R2 TV)))
  rcases z2 with z2a | z2b
  ·dsimp only [sumF] at q
   refine AI (OL (OL (cI q (fun q=>?_) (fun q=>?_)))) TV
   ·refine OL ?_
    obtain ⟨r3,hr3,q⟩ := bE q
    refine OL (AI f19_in (cV (cQ C19 (t_L,((((((rd (Ty.z T0) t_L out).2).2).2).2).1,want)) r3 I2 false C19_holds hr3 rfl rfl (R2 (AI NH (R2 (AJ (AI (R2 TV) ?_))))))))
    obtain ⟨z5,hz5,q⟩ := bE q
    refine OQ ⟨[(0,⟨[(0,P0 0 0),(1,.dat T2 kind),(13,.dat T2 z5.1),(14,.dat T2 z5.2.1)],[(0,.cells [(.osl 2)]),(2,.arr 45 T0 z5.2.2)],3⟩)],?_,?_⟩
    ·have q := hz5
     clear hz5
     unfold f23_j3 at q
     refine OL (cI q (fun q=>?_) (fun q=>?_))
     ·obtain ⟨r6,hr6,q⟩ := bE q
      refine OL (AI f70_in (cV (cQ C70 (r3.2.2,(3:Int),out,r3.1,(0:Int)) r6 [(0,some 0),(1,some 4)] false C70_holds hr6 rfl rfl (R4 (AI NH (R2 (AJ (AI (R2 TV) ?_))))))))
      cases sE q
      refine E4 [(0,some 0),(2,some 7)] (R4 (AJ (R2 TV)))
     cases sE q
     refine E4 [(0,some 0),(2,some 4)] (R4 (AJ (R2 TV)))
    refine AI ?_ TV
    obtain ⟨z9,hz9,q⟩ := bE q
    refine OQ ⟨[(0,⟨[(0,P0 0 0),(1,.dat T2 kind),(13,.dat T2 z9.1),(14,.dat T2 z9.2.1)],[(0,.cells [(.osl 2)]),(2,.arr 45 T0 z9.2.2)],3⟩)],?_,?_⟩
    ·have q := hz9
     clear hz9
     unfold f23_j5 at q
     obtain ⟨z10,hz10,q⟩ := bE q
     refine OQ ⟨[(0,⟨[(0,P0 0 0),(1,.dat T2 kind),(13,.dat T2 z5.1),(14,.dat T2 z5.2.1),(102,.dat .bool z10)],[(0,.cells [(.osl 2)]),(2,.arr 45 T0 z5.2.2)],3⟩)],?_,?_⟩
     ·have q := hz10
      clear hz10
      unfold f23_j6 at q
      refine cI q (fun q=>?_) (fun q=>?_)
      ·refine gX (cT ?_)
       cases sE q
       refine E4 [(0,some 0),(2,some 2)] (R5 (AJ (R2 TV)))
      refine gM (cF ?_)
      cases sE q
      refine E4 [(0,some 0),(2,some 2)] (R5 (AJ (R2 TV)))
     refine AI (cI q (fun q=>?_) (fun q=>?_)) TV
     ·obtain ⟨r11,hr11,q⟩ := bE q
      refine OL (AI f70_in (cV (cQ C70 (z5.2.2,(4:Int),z5.1,z5.1,(0:Int)) r11 [(0,some 0),(1,some 2)] false C70_holds hr11 rfl rfl (R4 (AI NH (R2 (AJ (AI (R2 TV) ?_))))))))
      cases sE q
      refine E4 [(0,some 0),(2,some 5)] (R4 (AJ (R2 TV)))
     cases sE q
     refine E4 [(0,some 0),(2,some 2)] (R4 (AJ (R2 TV)))
    refine AI ?_ TV
    obtain ⟨z14,hz14,q⟩ := bE q
    refine OQ ⟨[(0,⟨[(0,P0 0 0),(13,.dat T2 z14.1),(14,.dat T2 z14.2.1)],[(0,.cells [(.osl 2)]),(2,.arr 45 T0 z14.2.2)],3⟩)],?_,?_⟩
    ·have q := hz14
     clear hz14
     unfold f23_j8 at q
     obtain ⟨z15,hz15,q⟩ := bE q
     refine OQ ⟨[(0,⟨[(0,P0 0 0),(13,.dat T2 z9.1),(14,.dat T2 z9.2.1),(115,.dat .bool z15)],[(0,.cells [(.osl 2)]),(2,.arr 45 T0 z9.2.2)],3⟩)],?_,?_⟩
     ·have q := hz15
      clear hz15
      unfold f23_j9 at q
      refine cI q (fun q=>?_) (fun q=>?_)
      ·refine gX (cT ?_)
       cases sE q
       refine E4 [(0,some 0),(2,some 2)] (R4 (AJ (R2 TV)))
      refine gM (cF ?_)
      cases sE q
      refine E4 [(0,some 0),(2,some 2)] (R4 (AJ (R2 TV)))
     refine AI (cI q (fun q=>?_) (fun q=>?_)) TV
     ·obtain ⟨r16,hr16,q⟩ := bE q
      have hr16 : C70.F (z9.2.2,(11:Int),z9.1,(-1:Int),(4:Int)) = some r16 := hr16
      refine OL (AI f70_in (cV (cQ C70 _ r16 [(0,some 0),(1,some 2)] false C70_holds hr16 rfl rfl (R4 (AI NH (R2 (AJ (AI (R2 TV) ?_))))))))
      cases sE q
      refine E4 [(0,some 0),(2,some 5)] (R3 (AJ (R2 TV)))
     cases sE q
     refine E4 [(0,some 0),(2,some 2)] (R3 (AJ (R2 TV)))
    refine AI ?_ TV
    obtain ⟨z18,hz18,q⟩ := bE q
    refine OQ ⟨[(0,⟨[(13,.dat T2 z18.1),(14,.dat T2 z18.2.1)],[(0,.cells [(.osl 2)]),(2,.arr 45 T0 z18.2.2)],3⟩)],?_,?_⟩
    ·have q := hz18
     clear hz18
     unfold f23_j10 at q
     refine OL (cI q (fun q=>?_) (fun q=>?_))
     ·obtain ⟨r19,hr19,q⟩ := bE q
      have hr19 : C70.F (z14.2.2,(10:Int),z14.1,(-1:Int),(0:Int)) = some r19 := hr19
      refine OL (AI f70_in (cV (cQ C70 _ r19 [(0,some 0),(1,some 2)] false C70_holds hr19 rfl rfl (R4 (AI NH (R2 (AJ (AI (R2 TV) ?_))))))))
      cases sE q
      refine E4 [(0,some 0),(2,some 5)] (R3 (AI TV (R2 TV)))
     cases sE q
     refine E4 [(0,some 0),(2,some 2)] (R3 (AI TV (R2 TV)))
    refine AI (OL (OL (cI q (fun q=>?_) (fun q=>?_)))) TV
    ·cases sE q
     refine OL (AI rfl (E4 [(0,some 0),(2,some 2)] (R3 (AI TV (R2 TV)))))
    cases sE q
    refine OL (AI rfl (E4 [(0,some 0),(2,some 2)] (R3 (AI TV (R2 TV)))))
   refine OL ?_
   obtain ⟨r20,hr20,q⟩ := bE q
   refine OL (AI f71_in (cV (cQ C71 ((((((rd (Ty.z T0) t_L out).2).2).2).2).1,(0:Int)) r20 [] false C71_holds hr20 rfl rfl (R2 (K0 ?_)))))
   obtain ⟨r21,hr21,q⟩ := bE q
   refine OL (AI f71_in (cV (cQ C71 ((((((rd (Ty.z T0) t_L out).2).2).2).2).1,(4294967296:Int)) r21 [] false C71_holds hr21 rfl rfl (R2 (K0 (OL (OL (OL (gI q (fun q=>?_))))))))))
   refine OL (OL (gI q (fun q=>?_)))
   refine OL (OL ?_)
   obtain ⟨r22,hr22,q⟩ := bE q
   have hr22 : C19.F (t_L,(r20.1,(List.set r20.2 (Int.toNat class_) (-4294967296:Int)))) = some r22 := hr22
   refine OL (AI f19_in (cV (cQ C19 _ r22 I2 false C19_holds hr22 rfl rfl (R2 (AI NH (R2 (AJ (AI (R2 TV) (OL ?_)))))))))
   obtain ⟨z24,hz24,q⟩ := bE q
   refine OQ ⟨[(0,⟨[(0,P0 0 0),(2,.dat T2 out),(17,.dat T2 r22.1),(18,.dat T2 z24.1),(19,.dat T2 z24.2.1),(20,D0 0)],[(0,.cells [(.osl 2)]),(2,.arr 45 T0 z24.2.2)],3⟩)],?_,?_⟩
   ·have q := hz24
    clear hz24
    unfold f23_j11 at q
    refine OL (cI q (fun q=>?_) (fun q=>?_))
    ·obtain ⟨r25,hr25,q⟩ := bE q
     refine OL (AI f19_in (cV (cQ C19 (r22.2.2,(r21.1,(List.set r21.2 (Int.toNat class_) (0:Int)))) r25 [(0,some 0),(1,some 10)] false C19_holds hr25 rfl rfl (R2 (AI NH (R2 (AJ (AI (R2 TV) ?_))))))))
     cases sE q
     refine E4 [(0,some 0),(2,some 13)] (R6 (AJ (R2 TV)))
    cases sE q
    refine E4 [(0,some 0),(2,some 10)] (R6 (AJ (R2 TV)))
   refine AI ?_ TV
   obtain ⟨z27,hz27,q⟩ := bE q
   refine OQ ⟨[(0,⟨[(0,P0 0 0),(2,.dat T2 out),(18,.dat T2 z27.1),(19,.dat T2 z24.2.1),(20,.dat T2 z27.2.1)],[(0,.cells [(.osl 2)]),(2,.arr 45 T0 z27.2.2)],3⟩)],?_,?_⟩
   ·have q := hz27
    clear hz27
    unfold f23_j12 at q
    refine OL (cI q (fun q=>?_) (fun q=>?_))
    ·obtain ⟨r28,hr28,q⟩ := bE q
     refine OL (AI f70_in (cV (cQ C70 (z24.2.2,(4:Int),out,r22.1,(0:Int)) r28 [(0,some 0),(1,some 2)] false C70_holds hr28 rfl rfl (R4 (AI NH (R2 (AJ (AI (R2 TV) ?_))))))))
     cases sE q
     refine E4 [(0,some 0),(2,some 5)] (R5 (AJ (R2 TV)))
    cases sE q
    refine E4 [(0,some 0),(2,some 2)] (R5 (AJ (R2 TV)))
   refine AI ?_ TV
   obtain ⟨z30,hz30,q⟩ := bE q
   refine OQ ⟨[(0,⟨[(0,P0 0 0),(2,.dat T2 out),(18,.dat T2 z30.1),(19,.dat T2 z24.2.1),(20,.dat T2 z30.2.1)],[(0,.cells [(.osl 2)]),(2,.arr 45 T0 z30.2.2)],3⟩)],?_,?_⟩
   ·have q := hz30
    clear hz30
    unfold f23_j13 at q
    refine OL (cI q (fun q=>?_) (fun q=>?_))
    ·obtain ⟨r31,hr31,q⟩ := bE q
     have hr31 : C70.F (z27.2.2,(9:Int),z27.2.1,(-1:Int),(0:Int)) = some r31 := hr31
     refine OL (AI f70_in (cV (cQ C70 _ r31 [(0,some 0),(1,some 2)] false C70_holds hr31 rfl rfl (R4 (AI NH (R2 (AJ (AI (R2 TV) ?_))))))))
     cases sE q
     refine E4 [(0,some 0),(2,some 5)] (R5 (AJ (R2 TV)))
    cases sE q
    refine E4 [(0,some 0),(2,some 2)] (R5 (AJ (R2 TV)))
   refine AI ?_ TV
   obtain ⟨z33,hz33,q⟩ := bE q
   refine OQ ⟨[(0,⟨[(0,P0 0 0),(18,.dat T2 z33.1),(19,.dat T2 z24.2.1),(20,.dat T2 z33.2.1)],[(0,.cells [(.osl 2)]),(2,.arr 45 T0 z33.2.2)],3⟩)],?_,?_⟩
   ·have q := hz33
    clear hz33
    unfold f23_j14 at q
    refine OL (cI q (fun q=>?_) (fun q=>?_))
    ·obtain ⟨r34,hr34,q⟩ := bE q
     refine OL (AI f70_in (cV (cQ C70 (z30.2.2,(2:Int),out,z30.2.1,(0:Int)) r34 [(0,some 0),(1,some 2)] false C70_holds hr34 rfl rfl (R4 (AI NH (R2 (AJ (AI (R2 TV) ?_))))))))
     cases sE q
     refine E4 [(0,some 0),(2,some 5)] (R4 (AJ (R2 TV)))
    cases sE q
    refine E4 [(0,some 0),(2,some 2)] (R4 (AJ (R2 TV)))
   refine AI ?_ TV
   obtain ⟨z36,hz36,q⟩ := bE q
   refine OQ ⟨[(0,⟨[(0,P0 0 0),(18,.dat T2 z36.1),(19,.dat T2 z24.2.1),(20,.dat T2 z36.2.1)],[(0,.cells [(.osl 2)]),(2,.arr 45 T0 z36.2.2)],3⟩)],?_,?_⟩
   ·have q := hz36
    clear hz36
    unfold f23_j15 at q
    refine OL (cI q (fun q=>?_) (fun q=>?_))
    ·obtain ⟨r37,hr37,q⟩ := bE q
     refine OL (AI f70_in (cV (cQ C70 (z33.2.2,(2:Int),z33.2.1,z24.2.1,(0:Int)) r37 [(0,some 0),(1,some 2)] false C70_holds hr37 rfl rfl (R4 (AI NH (R2 (AJ (AI (R2 TV) ?_))))))))
     cases sE q
     refine E4 [(0,some 0),(2,some 5)] (R4 (AJ (R2 TV)))
    cases sE q
    refine E4 [(0,some 0),(2,some 2)] (R4 (AJ (R2 TV)))
   refine AI ?_ TV
   obtain ⟨z39,hz39,q⟩ := bE q
   refine OQ ⟨[(0,⟨[(0,P0 0 0),(18,.dat T2 z39.1),(19,.dat T2 z24.2.1),(20,.dat T2 z39.2.1)],[(0,.cells [(.osl 2)]),(2,.arr 45 T0 z39.2.2)],3⟩)],?_,?_⟩
   ·have q := hz39
    clear hz39
    unfold f23_j16 at q
    refine OL (cI q (fun q=>?_) (fun q=>?_))
    ·obtain ⟨r40,hr40,q⟩ := bE q
     have hr40 : C70.F (z36.2.2,(11:Int),z36.2.1,(-1:Int),(1:Int)) = some r40 := hr40
     refine OL (AI f70_in (cV (cQ C70 _ r40 [(0,some 0),(1,some 2)] false C70_holds hr40 rfl rfl (R4 (AI NH (R2 (AJ (AI (R2 TV) ?_))))))))
     cases sE q
     refine E4 [(0,some 0),(2,some 5)] (R4 (AJ (R2 TV)))
    cases sE q
    refine E4 [(0,some 0),(2,some 2)] (R4 (AJ (R2 TV)))
   refine AI ?_ TV
   obtain ⟨z42,hz42,q⟩ := bE q
   refine OQ ⟨[(0,⟨[(0,P0 0 0),(18,.dat T2 z42.1),(20,.dat T2 z42.2.1)],[(0,.cells [(.osl 2)]),(2,.arr 45 T0 z42.2.2)],3⟩)],?_,?_⟩
   ·have q := hz42
    clear hz42
    unfold f23_j17 at q
    refine OL (cI q (fun q=>?_) (fun q=>?_))
    ·obtain ⟨r43,hr43,q⟩ := bE q
     refine OL (AI f70_in (cV (cQ C70 (z39.2.2,(4:Int),z39.2.1,z24.2.1,(0:Int)) r43 [(0,some 0),(1,some 2)] false C70_holds hr43 rfl rfl (R4 (AI NH (R2 (AJ (AI (R2 TV) ?_))))))))
     cases sE q
     refine E4 [(0,some 0),(2,some 5)] (R3 (AJ (R2 TV)))
    cases sE q
    refine E4 [(0,some 0),(2,some 2)] (R3 (AJ (R2 TV)))
   refine AI ?_ TV
   obtain ⟨z45,hz45,q⟩ := bE q
   refine OQ ⟨[(0,⟨[(18,.dat T2 z45.1),(20,.dat T2 z45.2.1)],[(0,.cells [(.osl 2)]),(2,.arr 45 T0 z45.2.2)],3⟩)],?_,?_⟩
   ·have q := hz45
    clear hz45
    unfold f23_j18 at q
    refine OL (cI q (fun q=>?_) (fun q=>?_))
    ·obtain ⟨r46,hr46,q⟩ := bE q
     have hr46 : C70.F (z42.2.2,(9:Int),z42.2.1,(-1:Int),(0:Int)) = some r46 := hr46
     refine OL (AI f70_in (cV (cQ C70 _ r46 [(0,some 0),(1,some 2)] false C70_holds hr46 rfl rfl (R4 (AI NH (R2 (AJ (AI (R2 TV) ?_))))))))
     cases sE q
     refine E4 [(0,some 0),(2,some 5)] (R3 (AI TV (R2 TV)))
    cases sE q
    refine E4 [(0,some 0),(2,some 2)] (R3 (AI TV (R2 TV)))
   refine AI (OL (OL (cI q (fun q=>?_) (fun q=>?_)))) TV
   ·cases sE q
    refine OL (AI rfl (E4 [(0,some 0),(2,some 2)] (R3 (AI TV (R2 TV)))))
   cases sE q
   refine OL (AI rfl (E4 [(0,some 0),(2,some 2)] (R3 (AI TV (R2 TV)))))
  dsimp only [sumF] at q
  refine AI ?_ TV
  cases sE q
  refine AI rfl (E4 [(0,some 0),(2,some 1)] (R3 (AI TV (R2 TV))))
 dsimp only [sumF] at q
 refine AI ?_ TV
 cases sE q
 refine AI rfl (E4 [(0,some 0),(2,some 1)] (R3 (AI TV (R2 TV))))
theorem C23_holds : HP C23 23 := hH Tryz.f23 (by kernel_rfl) rfl (fun x y q=>C23_vc x.1 x.2.1 x.2.2.1 x.2.2.2.1 x.2.2.2.2 y q)
theorem f23_in : InP 23 := inP (by kernel_rfl)
def f25_j1 (a : LI×LI) (b : LI×LI) : Option (Sum Unit Unit) :=
 bindF (f73 a.1 b.1) fun r2 =>
 bif (!r2) then
 some (Sum.inr ())
 else
 bif ((List.length a.2:Int) != (List.length b.2:Int)) then
 some (Sum.inr ())
 else
 some (Sum.inl ())
def f25_l2 (a : LI×LI) (b : LI×LI) (go : Int → Option (Sum Unit Unit)) (i:Int) : Option (Sum Unit Unit) :=
 bif (decide (i < (List.length a.2:Int))) then
 guardF (0 ≤ i ∧ i < (List.length a.2:Int)) <|
 guardF (0 ≤ i ∧ i < (List.length b.2:Int)) <|
 bif ((rd (0:Int) a.2 i) != (rd (0:Int) b.2 i)) then
 some (Sum.inl ())
 else
 go (i64.wrap (i + (1:Int)))
 else
 some (Sum.inr ())
def f25 (a : LI×LI) (b : LI×LI) : Option Bool :=
 bindF (f25_j1 a b) fun z1 =>
 sumF z1 (fun z1a =>
 bindF (loopF (fun go x=>f25_l2 a b go x) fuelN (0:Int)) fun z3 =>
 sumF z3 (fun z3a =>
 some false) (fun z3b =>
 some true)) (fun z1b =>
 some false)
def C25 : Con where
 X := (LI×LI)×(LI×LI)
 Y := Bool
 e := 0
 args x := [.dat T3 x.1,.dat T3 x.2]
 hin x := []
 F x := f25 x.1 x.2
 ret y := [.dat .bool y]
 hout y := []
 nout := 0
theorem C25_vc (a : LI×LI) (b : LI×LI) (y : Bool) (q : f25 a b = some y) : VC Tryz.f25 C25 (a,b) y := by
 unfold f25 at q
 refine OL ?_
 obtain ⟨z1,hz1,q⟩ := bE q
 refine OQ ⟨Sum.elim (fun z1a=>[(0,⟨[(2,P0 0 0),(3,P0 1 0)],[(0,.cells [(.d T1 a.1),(.d T1 a.2)]),(1,.cells [(.d T1 b.1),(.d T1 b.2)])],2⟩)]) (fun z1b=>[(1,⟨[(4,.dat .bool false)],[],0⟩)]) z1,?_,?_⟩
 ·have q := hz1
  clear hz1
  unfold f25_j1 at q
  refine OL ?_
  obtain ⟨r2,hr2,q⟩ := bE q
  refine OL (AI f73_in (cV (cQ C73 (a.1,b.1) r2 [] false C73_holds hr2 rfl rfl (R2 (K0 (cN q (fun q=>?_) (fun q=>?_)))))))
  ·refine gY (gY (gY (gY (gY (gY (cF (cI q (fun q=>?_) (fun q=>?_))))))))
   ·cases sE q
    refine OL (E4 [] (R2 (AI TV TV)))
   cases sE q
   refine E4 I2 (AI rfl (AI (R2 TV) (R2 TV)))
  refine gN (gN (gN (gN (gN (gN (cT (cT (OL ?_))))))))
  cases sE q
  refine E4 [] (R2 (AI TV TV))
 rcases z1 with z1a | z1b
 ·dsimp only [sumF] at q
  refine AI (OL (OL ?_)) TV
  obtain ⟨z3,hz3,q⟩ := bE q
  refine lI Int (Sum Unit Unit) (fun x=>⟨[(2,P0 0 0),(3,P0 1 0),(5,.dat T2 x)],[(0,.cells [(.d T1 a.1),(.d T1 a.2)]),(1,.cells [(.d T1 b.1),(.d T1 b.2)])],2⟩) (fun z=>Sum.elim (fun za=>[(1,⟨[(4,.dat .bool false)],[],0⟩)]) (fun zb=>[(2,⟨[],[],0⟩)]) z) (loopF (fun go x=>f25_l2 a b go x)) fuelN (0:Int) z3 (AI hz3 (AI (E4 I2 (R2 (AI (R2 TV) (R2 TV)))) (AI (fun _ _ h=>lZ h) (AI (fun m=>fun i z q=>?_) ?_))))
  ·have q : f25_l2 a b (loopF (fun go x=>f25_l2 a b go x) m) i = some z := q
   unfold f25_l2 at q
   refine OL (OL (cI q (fun q=>?_) (fun q=>?_)))
   ·refine OL (OL (EI (.take 0 (.take 1 (.take 2 (.take 3 (.take 4 (.take 5 (.take 6 (.take 7 (.take 8 (.take 9 (.take 10 .done))))))))))) (EI [] (EI [] (AI rfl (gI q (fun q=>?_)))))))
    refine gI q (fun q=>?_)
    refine cI q (fun q=>?_) (fun q=>?_)
    ·cases sE q
     refine OL (E4 [] (R2 (AI TV TV)))
    refine EI (i64.wrap (i + (1:Int))) (AI q (E4 I2 (R2 (AI (R2 TV) (R2 TV)))))
   cases sE q
   refine E4 [] (AI rfl (AI TV TV))
  rcases z3 with z3a | z3b
  ·dsimp only [sumF] at q
   refine AI ?_ TV
   cases sE q
   refine AI rfl (E4 [] (R2 (AI TV TV)))
  dsimp only [sumF] at q
  refine AI (OL ?_) TV
  cases sE q
  refine AI rfl (E4 [] (R2 (AI TV TV)))
 dsimp only [sumF] at q
 refine AI ?_ TV
 cases sE q
 refine AI rfl (E4 [] (R2 (AI TV TV)))
theorem C25_holds : HP C25 25 := hH Tryz.f25 (by kernel_rfl) rfl (fun x y q=>C25_vc x.1 x.2 y q)
theorem f25_in : InP 25 := inP (by kernel_rfl)
def f162_l1 (s1 : LI) (s2 : LI) (go : Int → Option (Sum Unit Unit)) (v13:Int) : Option (Sum Unit Unit) :=
 bif (decide (v13 < (List.length s1:Int))) then
 guardF (0 ≤ v13 ∧ v13 < (List.length s1:Int)) <|
 guardF (0 ≤ v13 ∧ v13 < (List.length s2:Int)) <|
 bif ((rd (0:Int) s1 v13) != (rd (0:Int) s2 v13)) then
 some (Sum.inl ())
 else
 go (i64.wrap (v13 + (1:Int)))
 else
 some (Sum.inr ())
def f162 (s1 : LI) (s2 : LI) : Option Bool :=
 bif ((List.length s1:Int) != (List.length s2:Int)) then
 some false
 else
 bindF (loopF (fun go x=>f162_l1 s1 s2 go x) fuelN (0:Int)) fun z1 =>
 sumF z1 (fun z1a =>
 some false) (fun z1b =>
 some true)
def C162 : Con where
 X := LI×LI
 Y := Bool
 e := 0
 args x := [.dat T1 x.1,.dat T1 x.2]
 hin x := []
 F x := f162 x.1 x.2
 ret y := [.dat .bool y]
 hout y := []
 nout := 0
theorem C162_vc (s1 : LI) (s2 : LI) (y : Bool) (q : f162 s1 s2 = some y) : VC Tryz.f162 C162 (s1,s2) y := by
 unfold f162 at q
 refine OL (OL (OL (cI q (fun q=>?_) (fun q=>?_))))
 ·cases sE q
  refine OL (AI rfl (E4 [] (R2 (AI TV TV))))
 refine OL (OL ?_)
 obtain ⟨z1,hz1,q⟩ := bE q
 refine lI Int (Sum Unit Unit) (fun x=>⟨[(0,.dat T1 s1),(1,.dat T1 s2),(12,.dat T2 (List.length s1:Int)),(13,.dat T2 x)],[],0⟩) (fun z=>Sum.elim (fun za=>[(1,⟨[(4,.dat .bool false)],[],0⟩)]) (fun zb=>[(2,⟨[],[],0⟩)]) z) (loopF (fun go x=>f162_l1 s1 s2 go x)) fuelN (0:Int) z1 (AI hz1 (AI (E4 [] (R5 (AI TV TV))) (AI (fun _ _ h=>lZ h) (AI (fun m=>fun v13 z q=>?_) ?_))))
 ·have q : f162_l1 s1 s2 (loopF (fun go x=>f162_l1 s1 s2 go x) m) v13 = some z := q
  unfold f162_l1 at q
  refine OL (OL (cI q (fun q=>?_) (fun q=>?_)))
  ·refine OL (OL (OL (EI (.take 0 (.take 1 (.take 2 (.take 3 (.take 4 (.take 5 (.take 6 (.take 7 (.take 8 .done))))))))) (EI [] (EI [] (AI rfl (gI q (fun q=>?_))))))))
   refine gI q (fun q=>?_)
   refine cI q (fun q=>?_) (fun q=>?_)
   ·cases sE q
    refine OL (E4 [] (R2 (AI TV TV)))
   refine EI (i64.wrap (v13 + (1:Int))) (AI q (E4 [] (R5 (AI TV TV))))
  cases sE q
  refine E4 [] (AI rfl (AI TV TV))
 rcases z1 with z1a | z1b
 ·dsimp only [sumF] at q
  refine AI ?_ TV
  cases sE q
  refine AI rfl (E4 [] (R2 (AI TV TV)))
 dsimp only [sumF] at q
 refine AI (OL ?_) TV
 cases sE q
 refine AI rfl (E4 [] (R2 (AI TV TV)))
theorem C162_holds : HP C162 162 := hH Tryz.f162 (by kernel_rfl) rfl (fun x y q=>C162_vc x.1 x.2 y q)
theorem f162_in : InP 162 := inP (by kernel_rfl)
def f110 (a : LI) (b : LI) : Option Bool :=
 bindF (f162 a b) fun r1 =>
 some r1
def C110 : Con where
 X := LI×LI
 Y := Bool
 e := 0
 args x := [.dat T1 x.1,.dat T1 x.2]
 hin x := []
 F x := f110 x.1 x.2
 ret y := [.dat .bool y]
 hout y := []
 nout := 0
theorem C110_vc (a : LI) (b : LI) (y : Bool) (q : f110 a b = some y) : VC Tryz.f110 C110 (a,b) y := by
 unfold f110 at q
 refine OL (OL ?_)
 obtain ⟨r1,hr1,q⟩ := bE q
 refine OL (AI f162_in (cV (cQ C162 (a,b) r1 [] false C162_holds hr1 rfl rfl (R2 (K0 ?_)))))
 cases sE q
 refine AI rfl (E4 [] (R2 (AI TV TV)))
theorem C110_holds : HP C110 110 := hH Tryz.f110 (by kernel_rfl) rfl (fun x y q=>C110_vc x.1 x.2 y q)
theorem f110_in : InP 110 := inP (by kernel_rfl)
def f163_j3 (a : LI×LI) (d : LI) : Option Bool :=
 bindF (f59 (a.1,a.2)) fun r9 =>
 bif (!r9) then
 some true
 else
 bindF (f99 d) fun r10 =>
 some (!r10)
def f163_j2 (a : LI×LI) (d : LI) : Option (Sum Unit Unit) :=
 bindF (f163_j3 a d) fun z8 =>
 bif z8 then
 some (Sum.inr ())
 else
 some (Sum.inl ())
def f163_j6 (a : LI×LI) (r11 : Int×LI) : Option Bool :=
 bif (r11.1 != (0:Int)) then
 some true
 else
 bindF (f110 r11.2 a.1) fun r18 =>
 some (!r18)
def f163_j5 (a : LI×LI) (r11 : Int×LI) : Option (Sum Unit Unit) :=
 bindF (f163_j6 a r11) fun z17 =>
 bif z17 then
 some (Sum.inr ())
 else
 some (Sum.inl ())
def f163_l7 (a : LI×LI) (r20 : LI) (go : (Int×LI) → Option LI) (v51:Int) (l4 : LI) : Option LI :=
 bif (decide (v51 < (List.length a.2:Int))) then
 guardF (0 ≤ v51 ∧ v51 < (List.length a.2:Int)) <|
 guardF (0 ≤ v51 ∧ v51 < (List.length r20:Int)) <|
 guardF (0 ≤ v51 ∧ v51 < (List.length r20:Int)) <|
 guardF (0 ≤ (rd (0:Int) r20 v51) ∧ (rd (0:Int) r20 v51) < (List.length l4:Int)) <|
 bindF (f143 (rd (0:Int) l4 (rd (0:Int) r20 v51)) (rd (0:Int) a.2 v51)) fun q11_15 =>
 guardF (0 ≤ (rd (0:Int) r20 v51) ∧ (rd (0:Int) r20 v51) < (List.length l4:Int)) <|
 go ((i64.wrap (v51 + (1:Int))),(List.set l4 (Int.toNat (rd (0:Int) r20 v51)) q11_15))
 else
 some l4
def f163 (a : LI×LI) (d : LI) : Option (Int×LI×LI) :=
 bindF (f163_j2 a d) fun z5 =>
 sumF z5 (fun z5a =>
 bindF (f209 d a.1) fun r11 =>
 bindF (f163_j5 a r11) fun z15 =>
 sumF z15 (fun z15a =>
 bindF (f68 d (0:Int)) fun r19 =>
 bindF (f210 d a.1) fun r20 =>
 bindF (loopF (fun go x=>f163_l7 a r20 go x.1 x.2) fuelN ((0:Int),r19.2.2)) fun z21 =>
 some ((0:Int),r19.2.1,z21)) (fun z15b =>
 some ((4:Int),[],[]))) (fun z5b =>
 some ((1:Int),[],[]))
def C163 : Con where
 X := (LI×LI)×LI
 Y := Int×LI×LI
 e := 0
 args x := [.dat T3 x.1,.dat T1 x.2]
 hin x := []
 F x := f163 x.1 x.2
 ret y := [.raw true [(.osl 0),(.osl 1)],.dat T2 y.1]
 hout y := [(0,.arr 3 T2 y.2.1),(1,.arr 40 T2 y.2.2)]
 nout := 2
theorem C163_vc (a : LI×LI) (d : LI) (y : Int×LI×LI) (q : f163 a d = some y) : VC Tryz.f163 C163 (a,d) y := by
 unfold f163 at q
 refine OL ?_
 obtain ⟨z5,hz5,q⟩ := bE q
 refine OQ ⟨Sum.elim (fun z5a=>[(0,⟨[(1,.dat T1 d),(2,P0 0 0),(4,P0 1 0)],[(0,.cells [(.d T1 a.1),(.d T1 a.2)]),(1,.cells [N0,N0])],2⟩)]) (fun z5b=>[(1,⟨[(4,P0 0 0),(5,D0 1)],[(0,.cells [N0,N0])],1⟩)]) z5,?_,?_⟩
 ·have q := hz5
  clear hz5
  unfold f163_j2 at q
  obtain ⟨z8,hz8,q⟩ := bE q
  refine OQ ⟨[(0,⟨[(1,.dat T1 d),(2,P0 0 0),(4,P0 1 0),(20,.dat .bool z8)],[(0,.cells [(.d T1 a.1),(.d T1 a.2)]),(1,.cells [N0,N0])],2⟩)],?_,?_⟩
  ·have q := hz8
   clear hz8
   unfold f163_j3 at q
   obtain ⟨r9,hr9,q⟩ := bE q
   refine OL (AI f59_in (cV (cQ C59 (a.1,a.2) r9 [] false C59_holds hr9 rfl rfl (R2 (K0 (cN q (fun q=>?_) (fun q=>?_)))))))
   ·refine gY ?_
    obtain ⟨r10,hr10,q⟩ := bE q
    refine OL (AI f99_in (cV (cQ C99 d r10 [] false C99_holds hr10 rfl rfl (AI rfl (K0 (gY (cF ?_)))))))
    cases sE q
    refine E4 I2 (R3 (AI (R2 TV) (R2 TV)))
   refine gN (gN (cT ?_))
   cases sE q
   refine E4 I2 (R3 (AI (R2 TV) (R2 TV)))
  refine AI (cI q (fun q=>?_) (fun q=>?_)) TV
  ·refine OL (OL ?_)
   cases sE q
   refine E4 [(0,some 1)] (R2 (AJ (AI rfl TV)))
  cases sE q
  refine E4 I2 (R2 (AI (R2 TV) (R2 TV)))
 rcases z5 with z5a | z5b
 ·dsimp only [sumF] at q
  refine AI (OL ?_) TV
  obtain ⟨r11,hr11,q⟩ := bE q
  refine OL (AI f209_in (cV (cQ C209 (d,a.1) r11 [] false C209_holds hr11 rfl rfl (R2 (K0 ?_)))))
  obtain ⟨z15,hz15,q⟩ := bE q
  refine OQ ⟨Sum.elim (fun z15a=>[(0,⟨[(1,.dat T1 d),(2,P0 0 0),(4,P0 1 0)],[(0,.cells [(.d T1 a.1),(.d T1 a.2)]),(1,.cells [N0,N0])],2⟩)]) (fun z15b=>[(1,⟨[(4,P0 0 0),(5,D0 4)],[(0,.cells [N0,N0])],1⟩)]) z15,?_,?_⟩
  ·have q := hz15
   clear hz15
   unfold f163_j5 at q
   obtain ⟨z17,hz17,q⟩ := bE q
   refine OQ ⟨[(0,⟨[(1,.dat T1 d),(2,P0 0 0),(4,P0 1 0),(37,.dat .bool z17)],[(0,.cells [(.d T1 a.1),(.d T1 a.2)]),(1,.cells [N0,N0])],2⟩)],?_,?_⟩
   ·have q := hz17
    clear hz17
    unfold f163_j6 at q
    refine cN q (fun q=>?_) (fun q=>?_)
    ·refine gY (gY (gY ?_))
     obtain ⟨r18,hr18,q⟩ := bE q
     refine OL (AI f110_in (cV (cQ C110 (r11.2,a.1) r18 [] true C110_holds hr18 rfl rfl (R2 (AI (fun _=>rfl) (R2 (AI TV (AI TV (gY (cF ?_))))))))))
     cases sE q
     refine E4 I2 (R3 (AI (R2 TV) (R2 TV)))
    refine gN (gN (gN (gN (cT ?_))))
    cases sE q
    refine E4 I2 (R3 (AI (R2 TV) (R2 TV)))
   refine AI (cI q (fun q=>?_) (fun q=>?_)) TV
   ·refine OL (OL ?_)
    cases sE q
    refine E4 [(0,some 1)] (R2 (AJ (AI rfl TV)))
   cases sE q
   refine E4 I2 (R2 (AI (R2 TV) (R2 TV)))
  rcases z15 with z15a | z15b
  ·dsimp only [sumF] at q
   refine AI (OL ?_) TV
   obtain ⟨r19,hr19,q⟩ := bE q
   refine OL (AI f68_in (cV (cQ C68 (d,(0:Int)) r19 [] false C68_holds hr19 rfl rfl (R2 (K0 (OL (OL ?_)))))))
   obtain ⟨r20,hr20,q⟩ := bE q
   refine OL (AI f210_in (cV (cQ C210 (d,a.1) r20 [] false C210_holds hr20 rfl rfl (R2 (K0 (OL (OL ?_)))))))
   obtain ⟨z21,hz21,q⟩ := bE q
   refine lI (Int×LI) LI (fun x=>⟨[(4,P0 0 0),(8,P0 1 0),(10,O0 2),(49,.dat T1 a.2),(50,.dat T2 (List.length a.2:Int)),(51,.dat T2 x.1)],[(0,.cells [N0,N0]),(1,.cells [(.osl 3),(.osl 4)]),(2,.arr 3 T2 r20),(3,.arr 3 T2 r19.2.1),(4,.arr 40 T2 x.2)],5⟩) (fun z=>[(2,⟨[(4,P0 0 0),(8,P0 1 0)],[(0,.cells [N0,N0]),(1,.cells [(.osl 2),(.osl 3)]),(2,.arr 3 T2 r19.2.1),(3,.arr 40 T2 z)],4⟩)]) (loopF (fun go x=>f163_l7 a r20 go x.1 x.2)) fuelN ((0:Int),r19.2.2) z21 (AI hz21 (AI (E4 [(0,some 1),(1,some 4),(2,some 5),(3,some 2),(4,some 3)] (R4 (AI (R3 TV) (R5 TV)))) (AI (fun _ _ h=>lZ h) (AI (fun m=>curI (fun v51=>fun l4 z q=>?_)) ?_))))
   ·have q : f163_l7 a r20 (loopF (fun go x=>f163_l7 a r20 go x.1 x.2) m) v51 l4 = some z := q
    unfold f163_l7 at q
    refine OL (OL (cI q (fun q=>?_) (fun q=>?_)))
    ·refine OL (OL (gI q (fun q=>?_)))
     refine EI (.take 0 (.take 1 (.take 2 (.take 3 (.take 4 (.take 5 (.take 6 (.take 7 (.take 8 (.take 9 (.take 10 (.take 11 (.take 12 (.take 13 (.take 14 (.alt 15 (.take 16 (.alt 17 .done .done)) .done)))))))))))))))) (EI [(17,[4])] (EI [] (AI rfl (gI q (fun q=>?_)))))
     refine gI q (fun q=>?_)
     refine gI q (fun q=>?_)
     refine AI TV ?_
     obtain ⟨q11_15,hq11_15,q⟩ := bE q
     refine OL (AI f143_in (cV (cQ C143 ((rd (0:Int) l4 (rd (0:Int) r20 v51)),(rd (0:Int) a.2 v51)) q11_15 [] false C143_holds hq11_15 rfl rfl (R2 (K0 (gI q (fun q=>?_)))))))
     refine AI TV (OL (EI ((i64.wrap (v51 + (1:Int))),(List.set l4 (Int.toNat (rd (0:Int) r20 v51)) q11_15)) (AI q (E4 I5 (R4 (AI (R3 TV) (R5 TV)))))))
    cases sE q
    refine E4 [(0,some 0),(1,some 1),(2,some 3),(3,some 4)] (AI rfl (AI (R2 TV) (R4 TV)))
   refine AI (OL (OL ?_)) TV
   cases sE q
   refine AI rfl (E4 [(0,some 2),(1,some 3)] (R2 (AJ (R2 TV))))
  dsimp only [sumF] at q
  refine AI ?_ TV
  cases sE q
  refine AI rfl (E4 [(0,none),(1,none)] (R2 (AJ (R2 TV))))
 dsimp only [sumF] at q
 refine AI ?_ TV
 cases sE q
 refine AI rfl (E4 [(0,none),(1,none)] (R2 (AJ (R2 TV))))
theorem C163_holds : HP C163 163 := hH Tryz.f163 (by kernel_rfl) rfl (fun x y q=>C163_vc x.1 x.2 y q)
theorem f163_in : InP 163 := inP (by kernel_rfl)
def f165 (t : LI×LI) (e:Int) (d : LI) : Option (Int×LI×LI) :=
 bif (e != (0:Int)) then
 some (e,[],[])
 else
 bindF (f163 (t.1,t.2) d) fun r1 =>
 some (r1.1,r1.2.1,r1.2.2)
def C165 : Con where
 X := (LI×LI)×Int×LI
 Y := Int×LI×LI
 e := 0
 args x := [.dat T3 x.1,.dat T2 x.2.1,.dat T1 x.2.2]
 hin x := []
 F x := f165 x.1 x.2.1 x.2.2
 ret y := [.raw true [(.osl 0),(.osl 1)],.dat T2 y.1]
 hout y := [(0,.arr 3 T2 y.2.1),(1,.arr 40 T2 y.2.2)]
 nout := 2
theorem C165_vc (t : LI×LI) (e:Int) (d : LI) (y : Int×LI×LI) (q : f165 t e d = some y) : VC Tryz.f165 C165 (t,e,d) y := by
 unfold f165 at q
 refine OL (OL (OL (cI q (fun q=>?_) (fun q=>?_))))
 ·refine OL (OL ?_)
  cases sE q
  refine AI rfl (E4 [(0,none),(1,none)] (R2 (AJ (R2 TV))))
 refine OL ?_
 obtain ⟨r1,hr1,q⟩ := bE q
 refine OL (AI f163_in (cV (cQ C163 ((t.1,t.2),d) r1 [] false C163_holds hr1 rfl rfl (R3 (K0 (OL ?_))))))
 cases sE q
 refine AI rfl (E4 [(0,some 2),(1,some 3)] (R2 (AJ (R2 TV))))
theorem C165_holds : HP C165 165 := hH Tryz.f165 (by kernel_rfl) rfl (fun x y q=>C165_vc x.1 x.2.1 x.2.2 y q)
theorem f165_in : InP 165 := inP (by kernel_rfl)
def f167 (a : LI×LI) (b : LI×LI) (first : Bool) : Option (Int×LI×LI) :=
 none
def C167 : Con where
 X := (LI×LI)×(LI×LI)×Bool
 Y := Int×LI×LI
 e := 0
 args x := [.dat T3 x.1,.dat T3 x.2.1,.dat .bool x.2.2]
 hin x := []
 F x := f167 x.1 x.2.1 x.2.2
 ret y := [.raw true [(.osl 0),(.osl 1)],.dat T2 y.1]
 hout y := [(0,.arr 3 T2 y.2.1),(1,.arr 40 T2 y.2.2)]
 nout := 2
theorem C167_vc (a : LI×LI) (b : LI×LI) (first : Bool) (y : Int×LI×LI) (q : f167 a b first = some y) : VC Tryz.f167 C167 (a,b,first) y := by
 unfold f167 at q
 exact nomatch q
theorem C167_holds : HP C167 167 := hH Tryz.f167 (by kernel_rfl) rfl (fun x y q=>C167_vc x.1 x.2.1 x.2.2 y q)
theorem f167_in : InP 167 := inP (by kernel_rfl)
def f169 (g : LI×LI) (d : LI) (side:Int) : Option (LI×LI) :=
 none
def C169 : Con where
 X := (LI×LI)×LI×Int
 Y := LI×LI
 e := 0
 args x := [.dat T3 x.1,.dat T1 x.2.1,.dat T2 x.2.2]
 hin x := []
 F x := f169 x.1 x.2.1 x.2.2
 ret y := [.raw true [(.osl 0),(.osl 1)]]
 hout y := [(0,.arr 3 T2 y.1),(1,.arr 40 T2 y.2)]
 nout := 2
theorem C169_vc (g : LI×LI) (d : LI) (side:Int) (y : LI×LI) (q : f169 g d side = some y) : VC Tryz.f169 C169 (g,d,side) y := by
 unfold f169 at q
 exact nomatch q
theorem C169_holds : HP C169 169 := hH Tryz.f169 (by kernel_rfl) rfl (fun x y q=>C169_vc x.1 x.2.1 x.2.2 y q)
theorem f169_in : InP 169 := inP (by kernel_rfl)
def f245 (is : Bool) (yes:Int) (no:Int) : Option Int :=
 bif is then
 some yes
 else
 some no
def C245 : Con where
 X := Bool×Int×Int
 Y := Int
 e := 0
 args x := [.dat .bool x.1,.dat T2 x.2.1,.dat T2 x.2.2]
 hin x := []
 F x := f245 x.1 x.2.1 x.2.2
 ret y := [.dat T2 y]
 hout y := []
 nout := 0
theorem C245_vc (is : Bool) (yes:Int) (no:Int) (y:Int) (q : f245 is yes no = some y) : VC Tryz.f245 C245 (is,yes,no) y := by
 unfold f245 at q
 refine OL (OL (OL (cI q (fun q=>?_) (fun q=>?_))))
 ·cases sE q
  refine OL (AI rfl (E4 [] (R2 (AI TV TV))))
 cases sE q
 refine OL (AI rfl (E4 [] (R2 (AI TV TV))))
theorem C245_holds : HP C245 245 := hH Tryz.f245 (by kernel_rfl) rfl (fun x y q=>C245_vc x.1 x.2.1 x.2.2 y q)
theorem f245_in : InP 245 := inP (by kernel_rfl)
def f246 (a:Int) (b:Int) : Option Int :=
 bif (decide (a < b)) then
 some (-1:Int)
 else
 bif (decide (a > b)) then
 some (1:Int)
 else
 some (0:Int)
def C246 : Con where
 X := Int×Int
 Y := Int
 e := 0
 args x := [.dat T2 x.1,.dat T2 x.2]
 hin x := []
 F x := f246 x.1 x.2
 ret y := [.dat T2 y]
 hout y := []
 nout := 0
theorem C246_vc (a:Int) (b:Int) (y:Int) (q : f246 a b = some y) : VC Tryz.f246 C246 (a,b) y := by
 unfold f246 at q
 refine OL (OL (OL (cI q (fun q=>?_) (fun q=>?_))))
 ·cases sE q
  refine OL (AI rfl (E4 [] (R2 (AI TV TV))))
 refine OL (cI q (fun q=>?_) (fun q=>?_))
 ·cases sE q
  refine OL (AI rfl (E4 [] (R2 (AI TV TV))))
 cases sE q
 refine OL (AI rfl (E4 [] (R2 (AI TV TV))))
theorem C246_holds : HP C246 246 := hH Tryz.f246 (by kernel_rfl) rfl (fun x y q=>C246_vc x.1 x.2 y q)
theorem f246_in : InP 246 := inP (by kernel_rfl)
def f223_j1 (x_:Int) : Option Bool :=
 bif (decide (x_ > (-4294967296:Int))) then
 some (decide (x_ < (4294967296:Int)))
 else
 some false
def f223 (kind:Int) (x_:Int) : Option (Int×Int) :=
 bindF (f223_j1 x_) fun z1 =>
 bif (kind == (1:Int)) then
 bindF (f245 (decide (x_ > (0:Int))) (4294967296:Int) (0:Int)) fun r2 =>
 some (r2,(0:Int))
 else
 bif (kind == (2:Int)) then
 bindF (f245 (decide (x_ > (0:Int))) (4294967296:Int) (536870912:Int)) fun r3 =>
 some (r3,(0:Int))
 else
 bif (kind == (3:Int)) then
 bindF (f245 z1 (4294967296:Int) (0:Int)) fun r4 =>
 some (r4,(0:Int))
 else
 bif (kind == (4:Int)) then
 bindF (f246 x_ (0:Int)) fun r5 =>
 some ((i64.wrap (r5 * (4294967296:Int))),(0:Int))
 else
 bif (kind == (5:Int)) then
 bindF (f245 z1 (2147483648:Int) (0:Int)) fun r6 =>
 some (r6,(0:Int))
 else
 some ((0:Int),(1:Int))
def C223 : Con where
 X := Int×Int
 Y := Int×Int
 e := 0
 args x := [.dat T2 x.1,.dat T2 x.2]
 hin x := []
 F x := f223 x.1 x.2
 ret y := [.dat T2 y.1,.dat T2 y.2]
 hout y := []
 nout := 0
theorem C223_vc (kind:Int) (x_:Int) (y : Int×Int) (q : f223 kind x_ = some y) : VC Tryz.f223 C223 (kind,x_) y := by
 unfold f223 at q
 refine OL ?_
 obtain ⟨z1,hz1,q⟩ := bE q
 refine OQ ⟨[(0,⟨[(0,.dat T2 kind),(1,.dat T2 x_),(6,.dat .bool z1)],[],0⟩)],?_,?_⟩
 ·have q := hz1
  clear hz1
  unfold f223_j1 at q
  refine cI q (fun q=>?_) (fun q=>?_)
  ·refine gX (cT ?_)
   cases sE q
   refine E4 [] (R4 (AI TV TV))
  refine gM (cF ?_)
  cases sE q
  refine E4 [] (R4 (AI TV TV))
 refine AI (OL (OL (OL (cI q (fun q=>?_) (fun q=>?_))))) TV
 ·refine OL ?_
  obtain ⟨r2,hr2,q⟩ := bE q
  refine OL (AI f245_in (cV (cQ C245 ((decide (x_ > (0:Int))),(4294967296:Int),(0:Int)) r2 [] false C245_holds hr2 rfl rfl (R3 (K0 ?_)))))
  cases sE q
  refine AI rfl (E4 [] (R3 (AI TV TV)))
 refine OL (cI q (fun q=>?_) (fun q=>?_))
 ·refine OL ?_
  obtain ⟨r3,hr3,q⟩ := bE q
  refine OL (AI f245_in (cV (cQ C245 ((decide (x_ > (0:Int))),(4294967296:Int),(536870912:Int)) r3 [] false C245_holds hr3 rfl rfl (R3 (K0 ?_)))))
  cases sE q
  refine AI rfl (E4 [] (R3 (AI TV TV)))
 refine OL (cI q (fun q=>?_) (fun q=>?_))
 ·refine OL ?_
  obtain ⟨r4,hr4,q⟩ := bE q
  refine OL (AI f245_in (cV (cQ C245 (z1,(4294967296:Int),(0:Int)) r4 [] false C245_holds hr4 rfl rfl (R3 (K0 ?_)))))
  cases sE q
  refine AI rfl (E4 [] (R3 (AI TV TV)))
 refine OL (cI q (fun q=>?_) (fun q=>?_))
 ·refine OL ?_
  obtain ⟨r5,hr5,q⟩ := bE q
  refine OL (AI f246_in (cV (cQ C246 (x_,(0:Int)) r5 [] false C246_holds hr5 rfl rfl (R2 (K0 ?_)))))
  cases sE q
  refine AI rfl (E4 [] (R3 (AI TV TV)))
 refine OL (cI q (fun q=>?_) (fun q=>?_))
 ·refine OL ?_
  obtain ⟨r6,hr6,q⟩ := bE q
  refine OL (AI f245_in (cV (cQ C245 (z1,(2147483648:Int),(0:Int)) r6 [] false C245_holds hr6 rfl rfl (R3 (K0 ?_)))))
  cases sE q
  refine AI rfl (E4 [] (R3 (AI TV TV)))
 cases sE q
 refine OL (AI rfl (E4 [] (R3 (AI TV TV))))
theorem C223_holds : HP C223 223 := hH Tryz.f223 (by kernel_rfl) rfl (fun x y q=>C223_vc x.1 x.2 y q)
theorem f223_in : InP 223 := inP (by kernel_rfl)
def f171_j3 (kind:Int) (t : LI×LI) (g : LI×LI) : Option Bool :=
 bindF (f222 kind) fun r13 =>
 bif (!r13) then
 some true
 else
 bindF (f59 (t.1,t.2)) fun r14 =>
 bif (!r14) then
 some true
 else
 bindF (f59 (g.1,g.2)) fun r15 =>
 some (!r15)
def f171_j2 (kind:Int) (t : LI×LI) (g : LI×LI) : Option (Sum Unit Int) :=
 bindF (f171_j3 kind t g) fun z12 =>
 bif z12 then
 some (Sum.inr (1:Int))
 else
 bindF (f110 t.1 g.1) fun r16 =>
 bif (!r16) then
 some (Sum.inr (4:Int))
 else
 some (Sum.inl ())
def f171_l4 (kind:Int) (t : LI×LI) (g : LI×LI) (go : (Int×LI) → Option LI) (v41:Int) (l4 : LI) : Option LI :=
 bif (decide (v41 < (List.length t.2:Int))) then
 guardF (0 ≤ v41 ∧ v41 < (List.length t.2:Int)) <|
 bindF (f223 kind (rd (0:Int) t.2 v41)) fun q10_11 =>
 guardF (0 ≤ v41 ∧ v41 < (List.length g.2:Int)) <|
 bindF (f144 (rd (0:Int) g.2 v41) q10_11.1) fun q10_9 =>
 guardF (0 ≤ v41 ∧ v41 < (List.length l4:Int)) <|
 go ((i64.wrap (v41 + (1:Int))),(List.set l4 (Int.toNat v41) q10_9))
 else
 some l4
def f171 (kind:Int) (t : LI×LI) (g : LI×LI) : Option (Int×LI×LI) :=
 bindF (f171_j2 kind t g) fun z8 =>
 sumF z8 (fun z8a =>
 bindF (f61 (g.1,g.2)) fun r17 =>
 bindF (loopF (fun go x=>f171_l4 kind t g go x.1 x.2) fuelN ((0:Int),r17.2)) fun z19 =>
 some ((0:Int),r17.1,z19)) (fun z8b =>
 some (z8b,[],[]))
def C171 : Con where
 X := Int×(LI×LI)×(LI×LI)
 Y := Int×LI×LI
 e := 0
 args x := [.dat T2 x.1,.dat T3 x.2.1,.dat T3 x.2.2]
 hin x := []
 F x := f171 x.1 x.2.1 x.2.2
 ret y := [.raw true [(.osl 0),(.osl 1)],.dat T2 y.1]
 hout y := [(0,.arr 3 T2 y.2.1),(1,.arr 40 T2 y.2.2)]
 nout := 2
theorem C171_vc (kind:Int) (t : LI×LI) (g : LI×LI) (y : Int×LI×LI) (q : f171 kind t g = some y) : VC Tryz.f171 C171 (kind,t,g) y := by
 unfold f171 at q
 refine OL ?_
 obtain ⟨z8,hz8,q⟩ := bE q
 refine OQ ⟨Sum.elim (fun z8a=>[(0,⟨[(0,.dat T2 kind),(4,P0 0 0),(5,P0 1 0),(6,P0 2 0)],[(0,.cells [(.d T1 t.1),(.d T1 t.2)]),(1,.cells [(.d T1 g.1),(.d T1 g.2)]),(2,.cells [N0,N0])],3⟩)]) (fun z8b=>[(1,⟨[(6,P0 0 0),(7,.dat T2 z8b)],[(0,.cells [N0,N0])],1⟩)]) z8,?_,?_⟩
 ·have q := hz8
  clear hz8
  unfold f171_j2 at q
  obtain ⟨z12,hz12,q⟩ := bE q
  refine OQ ⟨[(0,⟨[(0,.dat T2 kind),(4,P0 0 0),(5,P0 1 0),(6,P0 2 0),(13,.dat .bool z12)],[(0,.cells [(.d T1 t.1),(.d T1 t.2)]),(1,.cells [(.d T1 g.1),(.d T1 g.2)]),(2,.cells [N0,N0])],3⟩)],?_,?_⟩
  ·have q := hz12
   clear hz12
   unfold f171_j3 at q
   obtain ⟨r13,hr13,q⟩ := bE q
   refine OL (AI f222_in (cV (cQ C222 kind r13 [] false C222_holds hr13 rfl rfl (AI rfl (K0 (cN q (fun q=>?_) (fun q=>?_)))))))
   ·refine gY ?_
    obtain ⟨r14,hr14,q⟩ := bE q
    refine OL (AI f59_in (cV (cQ C59 (t.1,t.2) r14 [] false C59_holds hr14 rfl rfl (R2 (K0 (gY (cF (cN q (fun q=>?_) (fun q=>?_)))))))))
    ·refine gY ?_
     obtain ⟨r15,hr15,q⟩ := bE q
     refine OL (AI f59_in (cV (cQ C59 (g.1,g.2) r15 [] false C59_holds hr15 rfl rfl (R2 (K0 (gY (cF ?_)))))))
     cases sE q
     refine E4 I3 (R3 (AI (R3 TV) (R3 TV)))
    refine gN (gN (cT ?_))
    cases sE q
    refine E4 I3 (R3 (AI (R3 TV) (R3 TV)))
   refine gN (gN (cT (gN (gN (gN (cT ?_))))))
   cases sE q
   refine E4 I3 (R3 (AI (R3 TV) (R3 TV)))
  refine AI (cI q (fun q=>?_) (fun q=>?_)) TV
  ·refine OL (OL ?_)
   cases sE q
   refine E4 [(0,some 2)] (R2 (AJ (AI rfl TV)))
  refine OL ?_
  obtain ⟨r16,hr16,q⟩ := bE q
  refine OL (AI f110_in (cV (cQ C110 (t.1,g.1) r16 [] false C110_holds hr16 rfl rfl (R2 (K0 (cI q (fun q=>?_) (fun q=>?_)))))))
  ·refine OL (OL ?_)
   cases sE q
   refine E4 [(0,some 2)] (R2 (AJ (AI rfl TV)))
  cases sE q
  refine E4 I3 (R2 (AI (R3 TV) (R3 TV)))
 rcases z8 with z8a | z8b
 ·dsimp only [sumF] at q
  refine AI (OL ?_) TV
  obtain ⟨r17,hr17,q⟩ := bE q
  refine OL (AI f61_in (cV (cQ C61 (g.1,g.2) r17 [] false C61_holds hr17 rfl rfl (R2 (K0 (OL (OL (OL ?_))))))))
  obtain ⟨z19,hz19,q⟩ := bE q
  refine lI (Int×LI) LI (fun x=>⟨[(0,.dat T2 kind),(5,P0 0 0),(6,P0 1 0),(8,P0 2 0),(39,.dat T1 t.2),(40,.dat T2 (List.length t.2:Int)),(41,.dat T2 x.1)],[(0,.cells [(.d T1 g.1),(.d T1 g.2)]),(1,.cells [N0,N0]),(2,.cells [(.osl 3),(.osl 4)]),(3,.arr 3 T2 r17.1),(4,.arr 40 T2 x.2)],5⟩) (fun z=>[(3,⟨[(6,P0 0 0),(8,P0 1 0)],[(0,.cells [N0,N0]),(1,.cells [(.osl 2),(.osl 3)]),(2,.arr 3 T2 r17.1),(3,.arr 40 T2 z)],4⟩)]) (loopF (fun go x=>f171_l4 kind t g go x.1 x.2)) fuelN ((0:Int),r17.2) z19 (AI hz19 (AI (E4 [(0,some 1),(1,some 2),(2,some 5),(3,some 3),(4,some 4)] (R5 (AI (R3 TV) (R5 TV)))) (AI (fun _ _ h=>lZ h) (AI (fun m=>curI (fun v41=>fun l4 z q=>?_)) ?_))))
  ·have q : f171_l4 kind t g (loopF (fun go x=>f171_l4 kind t g go x.1 x.2) m) v41 l4 = some z := q
   unfold f171_l4 at q
   refine OL (OL (cI q (fun q=>?_) (fun q=>?_)))
   ·refine OL (OL (gI q (fun q=>?_)))
    refine OL ?_
    obtain ⟨q10_11,hq10_11,q⟩ := bE q
    refine OL (AI f223_in (cV (cQ C223 (kind,(rd (0:Int) t.2 v41)) q10_11 [] false C223_holds hq10_11 rfl rfl (R2 (K0 (EI (.take 0 (.take 1 (.take 2 (.take 3 (.take 4 (.take 5 (.take 6 (.take 7 (.take 8 (.alt 9 (.take 10 (.alt 11 .done .done)) .done)))))))))) (EI [] (EI [] (AI rfl (gI q (fun q=>?_)))))))))))
    refine AI TV ?_
    obtain ⟨q10_9,hq10_9,q⟩ := bE q
    refine OL (AI f144_in (cV (cQ C144 ((rd (0:Int) g.2 v41),q10_11.1) q10_9 [] false C144_holds hq10_9 rfl rfl (R2 (K0 (gI q (fun q=>?_)))))))
    refine AI TV (OL (EI ((i64.wrap (v41 + (1:Int))),(List.set l4 (Int.toNat v41) q10_9)) (AI q (E4 I5 (R5 (AI (R3 TV) (R5 TV)))))))
   cases sE q
   refine E4 [(0,some 1),(1,some 2),(2,some 3),(3,some 4)] (AI rfl (AI (R2 TV) (R4 TV)))
  refine AI (OL (OL ?_)) TV
  cases sE q
  refine AI rfl (E4 [(0,some 2),(1,some 3)] (R2 (AJ (R2 TV))))
 dsimp only [sumF] at q
 refine AI ?_ TV
 cases sE q
 refine AI rfl (E4 [(0,none),(1,none)] (R2 (AJ (R2 TV))))
theorem C171_holds : HP C171 171 := hH Tryz.f171 (by kernel_rfl) rfl (fun x y q=>C171_vc x.1 x.2.1 x.2.2 y q)
theorem f171_in : InP 171 := inP (by kernel_rfl)
def f172 (g : LI×LI) (k : LI×LI) (step:Int) (long:Int) : Option (Int×LI×LI) :=
 none
def C172 : Con where
 X := (LI×LI)×(LI×LI)×Int×Int
 Y := Int×LI×LI
 e := 0
 args x := [.dat T3 x.1,.dat T3 x.2.1,.dat T2 x.2.2.1,.dat T2 x.2.2.2]
 hin x := []
 F x := f172 x.1 x.2.1 x.2.2.1 x.2.2.2
 ret y := [.raw true [(.osl 0),(.osl 1)],.dat T2 y.1]
 hout y := [(0,.arr 3 T2 y.2.1),(1,.arr 40 T2 y.2.2)]
 nout := 2
theorem C172_vc (g : LI×LI) (k : LI×LI) (step:Int) (long:Int) (y : Int×LI×LI) (q : f172 g k step long = some y) : VC Tryz.f172 C172 (g,k,step,long) y := by
 unfold f172 at q
 exact nomatch q
theorem C172_holds : HP C172 172 := hH Tryz.f172 (by kernel_rfl) rfl (fun x y q=>C172_vc x.1 x.2.1 x.2.2.1 x.2.2.2 y q)
theorem f172_in : InP 172 := inP (by kernel_rfl)
def f173 (g : LI×LI) (a : LI×LI) (wide:Int) : Option (LI×LI) :=
 none
def C173 : Con where
 X := (LI×LI)×(LI×LI)×Int
 Y := LI×LI
 e := 0
 args x := [.dat T3 x.1,.dat T3 x.2.1,.dat T2 x.2.2]
 hin x := []
 F x := f173 x.1 x.2.1 x.2.2
 ret y := [.raw true [(.osl 0),(.osl 1)]]
 hout y := [(0,.arr 3 T2 y.1),(1,.arr 40 T2 y.2)]
 nout := 2
theorem C173_vc (g : LI×LI) (a : LI×LI) (wide:Int) (y : LI×LI) (q : f173 g a wide = some y) : VC Tryz.f173 C173 (g,a,wide) y := by
 unfold f173 at q
 exact nomatch q
theorem C173_holds : HP C173 173 := hH Tryz.f173 (by kernel_rfl) rfl (fun x y q=>C173_vc x.1 x.2.1 x.2.2 y q)
theorem f173_in : InP 173 := inP (by kernel_rfl)
def f111_j1 (n : ND) : Option Bool :=
 bif (n.1 == (2:Int)) then
 some (n.1 == (2:Int))
 else
 some (n.1 == (3:Int))
def f111 (n : ND) (a : LI×LI) (b : LI×LI) (g : LI×LI) : Option (Int×LI×LI) :=
 bindF (f111_j1 n) fun z1 =>
 bif z1 then
 bindF (f163 (g.1,g.2) a.1) fun r2 =>
 some (r2.1,r2.2.1,r2.2.2)
 else
 bif (n.1 == (4:Int)) then
 bindF (f164 (g.1,g.2) (b.1,b.2)) fun r3 =>
 bindF (f165 (r3.2.1,r3.2.2) r3.1 a.1) fun r4 =>
 some (r4.1,r4.2.1,r4.2.2)
 else
 bif (n.1 == (5:Int)) then
 bindF (f166 (g.1,g.2) n.2.2.2.1) fun r5 =>
 some (r5.1,r5.2.1,r5.2.2)
 else
 bif (n.1 == (6:Int)) then
 bindF (f167 (g.1,g.2) (b.1,b.2) false) fun r6 =>
 some (r6.1,r6.2.1,r6.2.2)
 else
 bif (n.1 == (7:Int)) then
 bindF (f168 (g.1,g.2)) fun r7 =>
 some (r7.1,r7.2.1,r7.2.2)
 else
 bif (n.1 == (8:Int)) then
 bindF (f169 (g.1,g.2) a.1 n.2.2.2.1) fun r8 =>
 some ((0:Int),r8.1,r8.2)
 else
 bif (n.1 == (9:Int)) then
 guardF (0 ≤ (0:Int) ∧ (0:Int) < (List.length g.2:Int)) <|
 bindF (f68 a.1 (rd (0:Int) g.2 (0:Int))) fun q17_6 =>
 some (q17_6.1,q17_6.2.1,q17_6.2.2)
 else
 bif (n.1 == (10:Int)) then
 guardF (0 ≤ (0:Int) ∧ (0:Int) < (List.length g.2:Int)) <|
 bindF (f84 (rd (0:Int) g.2 (0:Int))) fun q19_6 =>
 bindF (f170 (q19_6.1,q19_6.2) (List.length a.2:Int)) fun q19_10 =>
 bindF (f68 a.1 q19_10) fun q19_11 =>
 some (q19_11.1,q19_11.2.1,q19_11.2.2)
 else
 bif (n.1 == (11:Int)) then
 bindF (f171 n.2.2.2.1 (a.1,a.2) (g.1,g.2)) fun q19_15 =>
 some (q19_15.1,q19_15.2.1,q19_15.2.2)
 else
 bif (n.1 == (12:Int)) then
 guardF (0 ≤ (1:Int) ∧ (1:Int) < (List.length a.1:Int)) <|
 bindF (f172 (g.1,g.2) (b.1,b.2) n.2.2.2.1 (rd (0:Int) a.1 (1:Int))) fun q23_8 =>
 some (q23_8.1,q23_8.2.1,q23_8.2.2)
 else
 bif (n.1 == (13:Int)) then
 bindF (f173 (g.1,g.2) (a.1,a.2) n.2.2.2.1) fun q23_12 =>
 some ((0:Int),q23_12.1,q23_12.2)
 else
 bif (n.1 == (14:Int)) then
 bindF (f174 (g.1,g.2) a.1) fun r9 =>
 some (r9.1,r9.2.1,r9.2.2)
 else
 some ((0:Int),[],[])
def C111 : Con where
 X := (ND)×(LI×LI)×(LI×LI)×(LI×LI)
 Y := Int×LI×LI
 e := 0
 args x := [.dat T0 x.1,.dat T3 x.2.1,.dat T3 x.2.2.1,.dat T3 x.2.2.2]
 hin x := []
 F x := f111 x.1 x.2.1 x.2.2.1 x.2.2.2
 ret y := [.raw true [(.osl 0),(.osl 1)],.dat T2 y.1]
 hout y := [(0,.arr 3 T2 y.2.1),(1,.arr 40 T2 y.2.2)]
 nout := 2
theorem C111_vc (n : ND) (a : LI×LI) (b : LI×LI) (g : LI×LI) (y : Int×LI×LI) (q : f111 n a b g = some y) : VC Tryz.f111 C111 (n,a,b,g) y := by
 unfold f111 at q
 refine OL (OL (OL ?_))
 obtain ⟨z1,hz1,q⟩ := bE q
 refine OQ ⟨[(0,⟨[(4,P0 0 0),(5,P0 1 0),(6,P0 2 0),(7,P0 3 0),(8,P0 4 0),(13,.dat T2 n.1),(14,.dat .bool z1)],[(0,.cells [(.d T2 n.1),(.d T2 n.2.1),(.d T2 n.2.2.1),(.d T2 n.2.2.2.1),(.d T1 n.2.2.2.2.1),(.d T1 n.2.2.2.2.2)]),(1,.cells [(.d T1 a.1),(.d T1 a.2)]),(2,.cells [(.d T1 b.1),(.d T1 b.2)]),(3,.cells [(.d T1 g.1),(.d T1 g.2)]),(4,.cells [N0,N0])],5⟩)],?_,?_⟩
 ·have q := hz1
  clear hz1
  unfold f111_j1 at q
  refine OL (cI q (fun q=>?_) (fun q=>?_))
  ·cases sE q
   refine E4 I5 (R3 (AI (R5 TV) (R5 TV)))
  cases sE q
  refine E4 I5 (R3 (AI (R5 TV) (R5 TV)))
 refine AI (cI q (fun q=>?_) (fun q=>?_)) TV
 ·refine OL ?_
  obtain ⟨r2,hr2,q⟩ := bE q
  refine OL (AI f163_in (cV (cQ C163 ((g.1,g.2),a.1) r2 [] false C163_holds hr2 rfl rfl (R3 (K0 (OL ?_))))))
  cases sE q
  refine AI rfl (E4 [(0,some 5),(1,some 6)] (R2 (AJ (R2 TV))))
 refine OL (cI q (fun q=>?_) (fun q=>?_))
 ·refine OL ?_
  obtain ⟨r3,hr3,q⟩ := bE q
  refine OL (AI f164_in (cV (cQ C164 ((g.1,g.2),(b.1,b.2)) r3 [] false C164_holds hr3 rfl rfl (R4 (K0 (OL (OL ?_)))))))
  obtain ⟨r4,hr4,q⟩ := bE q
  refine OL (AI f165_in (cV (cQ C165 ((r3.2.1,r3.2.2),r3.1,a.1) r4 [] true C165_holds hr4 rfl rfl (R4 (AI (fun _=>rfl) (R2 (AI TV (AI TV (OL ?_)))))))))
  cases sE q
  refine AI rfl (E4 [(0,some 8),(1,some 9)] (R2 (AJ (R2 TV))))
 refine OL (cI q (fun q=>?_) (fun q=>?_))
 ·refine OL ?_
  obtain ⟨r5,hr5,q⟩ := bE q
  refine OL (AI f166_in (cV (cQ C166 ((g.1,g.2),n.2.2.2.1) r5 [] false C166_holds hr5 rfl rfl (R3 (K0 (OL ?_))))))
  cases sE q
  refine AI rfl (E4 [(0,some 5),(1,some 6)] (R2 (AJ (R2 TV))))
 refine OL (cI q (fun q=>?_) (fun q=>?_))
 ·refine OL ?_
  obtain ⟨r6,hr6,q⟩ := bE q
  refine OL (AI f167_in (cV (cQ C167 ((g.1,g.2),(b.1,b.2),false) r6 [] false C167_holds hr6 rfl rfl (R5 (K0 (OL ?_))))))
  cases sE q
  refine AI rfl (E4 [(0,some 5),(1,some 6)] (R2 (AJ (R2 TV))))
 refine OL (cI q (fun q=>?_) (fun q=>?_))
 ·refine OL ?_
  obtain ⟨r7,hr7,q⟩ := bE q
  refine OL (AI f168_in (cV (cQ C168 (g.1,g.2) r7 [] false C168_holds hr7 rfl rfl (R2 (K0 (OL ?_))))))
  cases sE q
  refine AI rfl (E4 [(0,some 5),(1,some 6)] (R2 (AJ (R2 TV))))
 refine OL (cI q (fun q=>?_) (fun q=>?_))
 ·refine OL ?_
  obtain ⟨r8,hr8,q⟩ := bE q
  refine OL (AI f169_in (cV (cQ C169 ((g.1,g.2),a.1,n.2.2.2.1) r8 [] false C169_holds hr8 rfl rfl (R4 (K0 (OL ?_))))))
  cases sE q
  refine AI rfl (E4 [(0,some 5),(1,some 6)] (R2 (AJ (R2 TV))))
 refine OL (cI q (fun q=>?_) (fun q=>?_))
 ·refine OL (EI (.take 0 (.take 1 (.take 2 (.take 3 (.take 4 (.take 5 (.alt 6 (.take 7 (.take 8 (.alt 9 (.take 10 .done) .done))) .done))))))) (EI [] (EI [] (AI rfl (gI q (fun q=>?_))))))
  refine AI TV ?_
  obtain ⟨q17_6,hq17_6,q⟩ := bE q
  refine OL (AI f68_in (cV (cQ C68 (a.1,(rd (0:Int) g.2 (0:Int))) q17_6 [] false C68_holds hq17_6 rfl rfl (R2 (K0 (AI TV (OL ?_)))))))
  cases sE q
  refine AI rfl (E4 [(0,some 5),(1,some 6)] (R2 (AJ (R2 TV))))
 refine OL (cI q (fun q=>?_) (fun q=>?_))
 ·refine OL (EI (.take 0 (.take 1 (.take 2 (.take 3 (.take 4 (.take 5 (.take 7 (.take 8 (.take 9 (.alt 6 (.alt 10 (.alt 11 (.take 12 (.take 13 (.alt 14 (.take 15 .done) .done))) .done) .done) .done)))))))))) (EI [] (EI [] (AI rfl (gI q (fun q=>?_))))))
  refine AI TV ?_
  obtain ⟨q19_6,hq19_6,q⟩ := bE q
  refine OL (AI f84_in (cV (cQ C84 (rd (0:Int) g.2 (0:Int)) q19_6 [] false C84_holds hq19_6 rfl rfl (AI rfl (K0 (AI TV ?_))))))
  obtain ⟨q19_10,hq19_10,q⟩ := bE q
  refine OL (AI f170_in (cV (cQ C170 ((q19_6.1,q19_6.2),(List.length a.2:Int)) q19_10 [] false C170_holds hq19_10 rfl rfl (R3 (K0 (AI TV ?_))))))
  obtain ⟨q19_11,hq19_11,q⟩ := bE q
  refine OL (AI f68_in (cV (cQ C68 (a.1,q19_10) q19_11 [] false C68_holds hq19_11 rfl rfl (R2 (K0 (AI TV (OL ?_)))))))
  cases sE q
  refine AI rfl (E4 [(0,some 5),(1,some 6)] (R2 (AJ (R2 TV))))
 refine OL (cI q (fun q=>?_) (fun q=>?_))
 ·refine OL ?_
  obtain ⟨q19_15,hq19_15,q⟩ := bE q
  refine OL (AI f171_in (cV (cQ C171 (n.2.2.2.1,(a.1,a.2),(g.1,g.2)) q19_15 [] false C171_holds hq19_15 rfl rfl (R5 (K0 (OL ?_))))))
  cases sE q
  refine AI rfl (E4 [(0,some 5),(1,some 6)] (R2 (AJ (R2 TV))))
 refine OL (cI q (fun q=>?_) (fun q=>?_))
 ·refine OL (EI (.take 0 (.take 1 (.take 2 (.take 3 (.take 4 (.take 5 (.take 6 (.take 7 (.alt 8 (.take 9 (.take 10 (.alt 11 (.take 12 .done) .done))) .done))))))))) (EI [] (EI [] (AI rfl (gI q (fun q=>?_))))))
  refine AI TV ?_
  obtain ⟨q23_8,hq23_8,q⟩ := bE q
  refine OL (AI f172_in (cV (cQ C172 ((g.1,g.2),(b.1,b.2),n.2.2.2.1,(rd (0:Int) a.1 (1:Int))) q23_8 [] false C172_holds hq23_8 rfl rfl (R6 (K0 (AI TV (OL ?_)))))))
  cases sE q
  refine AI rfl (E4 [(0,some 5),(1,some 6)] (R2 (AJ (R2 TV))))
 refine OL (cI q (fun q=>?_) (fun q=>?_))
 ·refine OL ?_
  obtain ⟨q23_12,hq23_12,q⟩ := bE q
  refine OL (AI f173_in (cV (cQ C173 ((g.1,g.2),(a.1,a.2),n.2.2.2.1) q23_12 [] false C173_holds hq23_12 rfl rfl (R5 (K0 (OL ?_))))))
  cases sE q
  refine AI rfl (E4 [(0,some 5),(1,some 6)] (R2 (AJ (R2 TV))))
 refine OL (cI q (fun q=>?_) (fun q=>?_))
 ·refine OL ?_
  obtain ⟨r9,hr9,q⟩ := bE q
  refine OL (AI f174_in (cV (cQ C174 ((g.1,g.2),a.1) r9 [] false C174_holds hr9 rfl rfl (R3 (K0 (OL ?_))))))
  cases sE q
  refine AI rfl (E4 [(0,some 5),(1,some 6)] (R2 (AJ (R2 TV))))
 refine OL (OL ?_)
 cases sE q
 refine AI rfl (E4 [(0,none),(1,none)] (R2 (AJ (R2 TV))))
theorem C111_holds : HP C111 111 := hH Tryz.f111 (by kernel_rfl) rfl (fun x y q=>C111_vc x.1 x.2.1 x.2.2.1 x.2.2.2 y q)
theorem f111_in : InP 111 := inP (by kernel_rfl)
def f175 (g : LI×LI) (a : LI×LI) (step:Int) (wid:Int) : Option (Int×LI×LI) :=
 none
def C175 : Con where
 X := (LI×LI)×(LI×LI)×Int×Int
 Y := Int×LI×LI
 e := 0
 args x := [.dat T3 x.1,.dat T3 x.2.1,.dat T2 x.2.2.1,.dat T2 x.2.2.2]
 hin x := []
 F x := f175 x.1 x.2.1 x.2.2.1 x.2.2.2
 ret y := [.raw true [(.osl 0),(.osl 1)],.dat T2 y.1]
 hout y := [(0,.arr 3 T2 y.2.1),(1,.arr 40 T2 y.2.2)]
 nout := 2
theorem C175_vc (g : LI×LI) (a : LI×LI) (step:Int) (wid:Int) (y : Int×LI×LI) (q : f175 g a step wid = some y) : VC Tryz.f175 C175 (g,a,step,wid) y := by
 unfold f175 at q
 exact nomatch q
theorem C175_holds : HP C175 175 := hH Tryz.f175 (by kernel_rfl) rfl (fun x y q=>C175_vc x.1 x.2.1 x.2.2.1 x.2.2.2 y q)
theorem f175_in : InP 175 := inP (by kernel_rfl)
def f112 (n : ND) (a : LI×LI) (b : LI×LI) (g : LI×LI) : Option (Int×LI×LI) :=
 bif (n.1 == (2:Int)) then
 bindF (f163 (g.1,g.2) b.1) fun q13_12 =>
 some (q13_12.1,q13_12.2.1,q13_12.2.2)
 else
 bif (n.1 == (3:Int)) then
 bindF (f166 (g.1,g.2) (-4294967296:Int)) fun r1 =>
 bindF (f165 (r1.2.1,r1.2.2) r1.1 b.1) fun r2 =>
 some (r2.1,r2.2.1,r2.2.2)
 else
 bif (n.1 == (4:Int)) then
 bindF (f164 (g.1,g.2) (a.1,a.2)) fun r3 =>
 bindF (f165 (r3.2.1,r3.2.2) r3.1 b.1) fun r4 =>
 some (r4.1,r4.2.1,r4.2.2)
 else
 bif (n.1 == (6:Int)) then
 bindF (f167 (a.1,a.2) (g.1,g.2) true) fun r5 =>
 some (r5.1,r5.2.1,r5.2.2)
 else
 bif (n.1 == (12:Int)) then
 guardF (0 ≤ (2:Int) ∧ (2:Int) < (List.length b.1:Int)) <|
 bindF (f175 (g.1,g.2) (a.1,a.2) n.2.2.2.1 (rd (0:Int) b.1 (2:Int))) fun q13_8 =>
 some (q13_8.1,q13_8.2.1,q13_8.2.2)
 else
 some ((0:Int),[],[])
def C112 : Con where
 X := (ND)×(LI×LI)×(LI×LI)×(LI×LI)
 Y := Int×LI×LI
 e := 0
 args x := [.dat T0 x.1,.dat T3 x.2.1,.dat T3 x.2.2.1,.dat T3 x.2.2.2]
 hin x := []
 F x := f112 x.1 x.2.1 x.2.2.1 x.2.2.2
 ret y := [.raw true [(.osl 0),(.osl 1)],.dat T2 y.1]
 hout y := [(0,.arr 3 T2 y.2.1),(1,.arr 40 T2 y.2.2)]
 nout := 2
theorem C112_vc (n : ND) (a : LI×LI) (b : LI×LI) (g : LI×LI) (y : Int×LI×LI) (q : f112 n a b g = some y) : VC Tryz.f112 C112 (n,a,b,g) y := by
 unfold f112 at q
 refine OL (OL (OL (OL (cI q (fun q=>?_) (fun q=>?_)))))
 ·refine OL ?_
  obtain ⟨q13_12,hq13_12,q⟩ := bE q
  refine OL (AI f163_in (cV (cQ C163 ((g.1,g.2),b.1) q13_12 [] false C163_holds hq13_12 rfl rfl (R3 (K0 (OL ?_))))))
  cases sE q
  refine AI rfl (E4 [(0,some 5),(1,some 6)] (R2 (AJ (R2 TV))))
 refine OL (cI q (fun q=>?_) (fun q=>?_))
 ·refine OL ?_
  obtain ⟨r1,hr1,q⟩ := bE q
  have hr1 : C166.F ((g.1,g.2),(-4294967296:Int)) = some r1 := hr1
  refine OL (AI f166_in (cV (cQ C166 _ r1 [] false C166_holds hr1 rfl rfl (R3 (K0 (OL (OL ?_)))))))
  obtain ⟨r2,hr2,q⟩ := bE q
  refine OL (AI f165_in (cV (cQ C165 ((r1.2.1,r1.2.2),r1.1,b.1) r2 [] true C165_holds hr2 rfl rfl (R4 (AI (fun _=>rfl) (R2 (AI TV (AI TV (OL ?_)))))))))
  cases sE q
  refine AI rfl (E4 [(0,some 8),(1,some 9)] (R2 (AJ (R2 TV))))
 refine OL (cI q (fun q=>?_) (fun q=>?_))
 ·refine OL ?_
  obtain ⟨r3,hr3,q⟩ := bE q
  refine OL (AI f164_in (cV (cQ C164 ((g.1,g.2),(a.1,a.2)) r3 [] false C164_holds hr3 rfl rfl (R4 (K0 (OL (OL ?_)))))))
  obtain ⟨r4,hr4,q⟩ := bE q
  refine OL (AI f165_in (cV (cQ C165 ((r3.2.1,r3.2.2),r3.1,b.1) r4 [] true C165_holds hr4 rfl rfl (R4 (AI (fun _=>rfl) (R2 (AI TV (AI TV (OL ?_)))))))))
  cases sE q
  refine AI rfl (E4 [(0,some 8),(1,some 9)] (R2 (AJ (R2 TV))))
 refine OL (cI q (fun q=>?_) (fun q=>?_))
 ·refine OL ?_
  obtain ⟨r5,hr5,q⟩ := bE q
  refine OL (AI f167_in (cV (cQ C167 ((a.1,a.2),(g.1,g.2),true) r5 [] false C167_holds hr5 rfl rfl (R5 (K0 (OL ?_))))))
  cases sE q
  refine AI rfl (E4 [(0,some 5),(1,some 6)] (R2 (AJ (R2 TV))))
 refine OL (cI q (fun q=>?_) (fun q=>?_))
 ·refine OL (EI (.take 0 (.take 1 (.take 2 (.take 3 (.take 4 (.take 5 (.take 6 (.take 7 (.alt 8 (.take 9 (.take 10 (.alt 11 (.take 12 .done) .done))) .done))))))))) (EI [] (EI [] (AI rfl (gI q (fun q=>?_))))))
  refine AI TV ?_
  obtain ⟨q13_8,hq13_8,q⟩ := bE q
  refine OL (AI f175_in (cV (cQ C175 ((g.1,g.2),(a.1,a.2),n.2.2.2.1,(rd (0:Int) b.1 (2:Int))) q13_8 [] false C175_holds hq13_8 rfl rfl (R6 (K0 (AI TV (OL ?_)))))))
  cases sE q
  refine AI rfl (E4 [(0,some 5),(1,some 6)] (R2 (AJ (R2 TV))))
 refine OL (OL ?_)
 cases sE q
 refine AI rfl (E4 [(0,none),(1,none)] (R2 (AJ (R2 TV))))
theorem C112_holds : HP C112 112 := hH Tryz.f112 (by kernel_rfl) rfl (fun x y q=>C112_vc x.1 x.2.1 x.2.2.1 x.2.2.2 y q)
theorem f112_in : InP 112 := inP (by kernel_rfl)
def f74_j3 (g : LI×LI) (q12_4 : Int×Int×Int×Int×Bool×LI×LI×NL) : Option Bool :=
 bif (!q12_4.2.2.2.2.1) then
 some true
 else
 bindF (f59 (g.1,g.2)) fun r10 =>
 bif (!r10) then
 some true
 else
 bindF (f110 g.1 q12_4.2.2.2.2.2.1) fun r11 =>
 some (!r11)
def f74_j2 (g : LI×LI) (q12_4 : Int×Int×Int×Int×Bool×LI×LI×NL) : Option (Sum Unit Unit) :=
 bindF (f74_j3 g q12_4) fun z9 =>
 bif z9 then
 some (Sum.inr ())
 else
 some (Sum.inl ())
def f74 (t_l : NL) (n:Int) (g : LI×LI) : Option (Int×LI×LI×LI×LI×NL) :=
 bindF (f24 t_l n) fun q12_4 =>
 bindF (f74_j2 g q12_4) fun z6 =>
 sumF z6 (fun z6a =>
 bindF (f58 q12_4.2.2.2.2.2.2.2 q12_4.2.1) fun r12 =>
 bindF (f58 r12.2.2.2 q12_4.2.2.1) fun r13 =>
 bindF (f111 (q12_4.1,q12_4.2.1,q12_4.2.2.1,q12_4.2.2.2.1,q12_4.2.2.2.2.2.1,q12_4.2.2.2.2.2.2.1) (r12.2.1,r12.2.2.1) (r13.2.1,r13.2.2.1) (g.1,g.2)) fun r14 =>
 bif (r14.1 != (0:Int)) then
 some (r14.1,[],[],[],[],r13.2.2.2)
 else
 bindF (f112 (q12_4.1,q12_4.2.1,q12_4.2.2.1,q12_4.2.2.2.1,q12_4.2.2.2.2.2.1,q12_4.2.2.2.2.2.2.1) (r12.2.1,r12.2.2.1) (r13.2.1,r13.2.2.1) (g.1,g.2)) fun r15 =>
 bif (r15.1 != (0:Int)) then
 some (r15.1,[],[],[],[],r13.2.2.2)
 else
 some ((0:Int),r14.2.1,r14.2.2,r15.2.1,r15.2.2,r13.2.2.2)) (fun z6b =>
 some ((1:Int),[],[],[],[],q12_4.2.2.2.2.2.2.2))
def C74 : Con where
 X := NL×Int×(LI×LI)
 Y := Int×LI×LI×LI×LI×NL
 e := 2
 args x := [P0 0 0,.dat T2 x.2.1,.dat T3 x.2.2]
 hin x := [(0,.cells [(.osl 1)]),(1,.arr 42 T0 x.1)]
 F x := f74 x.1 x.2.1 x.2.2
 ret y := [.raw true [(.osl 2),(.osl 3)],.raw true [(.osl 4),(.osl 5)],.dat T2 y.1]
 hout y := [(0,.cells [(.osl 1)]),(1,.arr 42 T0 y.2.2.2.2.2),(2,.arr 3 T2 y.2.1),(3,.arr 40 T2 y.2.2.1),(4,.arr 3 T2 y.2.2.2.1),(5,.arr 40 T2 y.2.2.2.2.1)]
 nout := 6
theorem C74_vc (t_l : NL) (n:Int) (g : LI×LI) (y : Int×LI×LI×LI×LI×NL) (q : f74 t_l n g = some y) : VE Tryz.f74 2 C74 (t_l,n,g) y := by
 unfold f74 at q
 refine OL (OL ?_)
 obtain ⟨q12_4,hq12_4,q⟩ := bE q
 refine OL (AI f24_in (cV (cQ C24 (t_l,n) q12_4 I2 false C24_holds hq12_4 rfl rfl (AI rfl (AI NH (R2 (AJ (AI (R2 TV) (OL ?_)))))))))
 obtain ⟨z6,hz6,q⟩ := bE q
 refine OQ ⟨Sum.elim (fun z6a=>[(0,⟨[(0,P0 0 0),(5,P0 2 0),(6,P0 3 0),(7,P0 4 0),(9,P0 5 0)],[(0,.cells [(.osl 1)]),(1,.arr 42 T0 q12_4.2.2.2.2.2.2.2),(2,.cells [(.d T1 g.1),(.d T1 g.2)]),(3,.cells [N0,N0]),(4,.cells [N0,N0]),(5,.cells [(.d T2 q12_4.1),(.d T2 q12_4.2.1),(.d T2 q12_4.2.2.1),(.d T2 q12_4.2.2.2.1),(.osl 6),(.osl 7)]),(6,.arr 3 T2 q12_4.2.2.2.2.2.1),(7,.arr 40 T2 q12_4.2.2.2.2.2.2.1)],8⟩)]) (fun z6b=>[(1,⟨[(6,P0 2 0),(7,P0 3 0),(8,D0 1)],[(0,.cells [(.osl 1)]),(1,.arr 42 T0 q12_4.2.2.2.2.2.2.2),(2,.cells [N0,N0]),(3,.cells [N0,N0])],4⟩)]) z6,?_,?_⟩
 ·have q := hz6
  clear hz6
  unfold f74_j2 at q
  obtain ⟨z9,hz9,q⟩ := bE q
  refine OQ ⟨[(0,⟨[(0,P0 0 0),(5,P0 2 0),(6,P0 3 0),(7,P0 4 0),(9,P0 5 0),(39,.dat .bool z9)],[(0,.cells [(.osl 1)]),(1,.arr 42 T0 q12_4.2.2.2.2.2.2.2),(2,.cells [(.d T1 g.1),(.d T1 g.2)]),(3,.cells [N0,N0]),(4,.cells [N0,N0]),(5,.cells [(.d T2 q12_4.1),(.d T2 q12_4.2.1),(.d T2 q12_4.2.2.1),(.d T2 q12_4.2.2.2.1),(.osl 6),(.osl 7)]),(6,.arr 3 T2 q12_4.2.2.2.2.2.1),(7,.arr 40 T2 q12_4.2.2.2.2.2.2.1)],8⟩)],?_,?_⟩
  ·have q := hz9
   clear hz9
   unfold f74_j3 at q
   refine cN q (fun q=>?_) (fun q=>?_)
   ·refine gY ?_
    obtain ⟨r10,hr10,q⟩ := bE q
    refine OL (AI f59_in (cV (cQ C59 (g.1,g.2) r10 [] false C59_holds hr10 rfl rfl (R2 (K0 (gY (cF (cN q (fun q=>?_) (fun q=>?_)))))))))
    ·refine gY (gY (gY (gY (gY ?_))))
     obtain ⟨r11,hr11,q⟩ := bE q
     refine OL (AI f110_in (cV (cQ C110 (g.1,q12_4.2.2.2.2.2.1) r11 [] true C110_holds hr11 rfl rfl (R2 (AI (fun _=>rfl) (R2 (AI TV (AI TV (gY (cF ?_))))))))))
     cases sE q
     refine E4 [(0,some 0),(1,some 1),(2,some 2),(3,some 3),(4,some 4),(5,some 9),(6,some 7),(7,some 8)] (R2 (AI (R5 TV) (R8 TV)))
    refine gN (gN (gN (gN (gN (gN (cT ?_))))))
    cases sE q
    refine E4 [(0,some 0),(1,some 1),(2,some 2),(3,some 3),(4,some 4),(5,some 9),(6,some 7),(7,some 8)] (R2 (AI (R5 TV) (R8 TV)))
   refine gN (gN (cT (gN (gN (gN (gN (gN (gN (gN (cT ?_))))))))))
   cases sE q
   refine E4 [(0,some 0),(1,some 1),(2,some 2),(3,some 3),(4,some 4),(5,some 9),(6,some 7),(7,some 8)] (R2 (AI (R5 TV) (R8 TV)))
  refine AI (cI q (fun q=>?_) (fun q=>?_)) TV
  ·refine OL (OL (OL ?_))
   cases sE q
   refine E4 [(0,some 0),(1,some 1),(2,some 3),(3,some 4)] (R2 (AI (R2 TV) (R4 TV)))
  cases sE q
  refine E4 I8 (AI rfl (AI (R5 TV) (R8 TV)))
 rcases z6 with z6a | z6b
 ·dsimp only [sumF] at q
  refine AI (OL ?_) TV
  obtain ⟨r12,hr12,q⟩ := bE q
  refine OL (AI f58_in (cV (cQ C58 (q12_4.2.2.2.2.2.2.2,q12_4.2.1) r12 I2 false C58_holds hr12 rfl rfl (AI rfl (AI NH (R2 (AJ (AI (R2 TV) (OL (OL ?_))))))))))
  obtain ⟨r13,hr13,q⟩ := bE q
  refine OL (AI f58_in (cV (cQ C58 (r12.2.2.2,q12_4.2.2.1) r13 I2 false C58_holds hr13 rfl rfl (AI rfl (AI NH (R2 (AJ (AI (R2 TV) (OL (OL ?_))))))))))
  obtain ⟨r14,hr14,q⟩ := bE q
  refine OL (AI f111_in (cV (cQ C111 ((q12_4.1,q12_4.2.1,q12_4.2.2.1,q12_4.2.2.2.1,q12_4.2.2.2.2.2.1,q12_4.2.2.2.2.2.2.1),(r12.2.1,r12.2.2.1),(r13.2.1,r13.2.2.1),(g.1,g.2)) r14 [] true C111_holds hr14 rfl rfl (R8 (AI (fun _=>rfl) (R2 (AI TV (AI TV (OL (OL (OL (cI q (fun q=>?_) (fun q=>?_)))))))))))))
  ·refine OL (OL (OL ?_))
   cases sE q
   refine AI rfl (E4 [(0,some 0),(1,some 1),(2,none),(3,none),(4,none),(5,none)] (R2 (AI (R2 TV) (R6 TV))))
  refine OL ?_
  obtain ⟨r15,hr15,q⟩ := bE q
  refine OL (AI f112_in (cV (cQ C112 ((q12_4.1,q12_4.2.1,q12_4.2.2.1,q12_4.2.2.2.1,q12_4.2.2.2.2.2.1,q12_4.2.2.2.2.2.2.1),(r12.2.1,r12.2.2.1),(r13.2.1,r13.2.2.1),(g.1,g.2)) r15 [] true C112_holds hr15 rfl rfl (R8 (AI (fun _=>rfl) (R2 (AI TV (AI TV (OL (OL (OL (cI q (fun q=>?_) (fun q=>?_)))))))))))))
  ·refine OL (OL (OL ?_))
   cases sE q
   refine AI rfl (E4 [(0,some 0),(1,some 1),(2,none),(3,none),(4,none),(5,none)] (R2 (AI (R2 TV) (R6 TV))))
  refine OL (EI (.take 0 (.take 1 (.alt 2 (.alt 3 (.take 4 .done) .done) .done))) (EI [] (EI [] (AI rfl (AI TV (OL (AI TV (OL ?_))))))))
  cases sE q
  refine AI rfl (E4 [(0,some 0),(1,some 1),(2,some 18),(3,some 19),(4,some 21),(5,some 22)] (R2 (AI (R2 TV) (R6 TV))))
 dsimp only [sumF] at q
 refine AI ?_ TV
 cases sE q
 refine AI rfl (E4 [(0,some 0),(1,some 1),(2,none),(3,none),(4,none),(5,none)] (R2 (AI (R2 TV) (R6 TV))))
theorem C74_holds : HP C74 74 := hH Tryz.f74 (by kernel_rfl) rfl (fun x y q=>C74_vc x.1 x.2.1 x.2.2 y q)
theorem f74_in : InP 74 := inP (by kernel_rfl)
def f75 (s_l : List (LI×LI)) (s_given : List Bool) (n:Int) (g : LI×LI) : Option (Int×(List (LI×LI))×(List Bool)) :=
 bif (decide (n < (0:Int))) then
 some ((0:Int),s_l,s_given)
 else
 guardF (0 ≤ n ∧ n < (List.length s_l:Int)) <|
 bindF (f113 ((rd (Ty.z T3) s_l n).1,(rd (Ty.z T3) s_l n).2) (g.1,g.2)) fun q4_13 =>
 guardF (0 ≤ n ∧ n < (List.length s_l:Int)) <|
 guardF (0 ≤ n ∧ n < (List.length s_given:Int)) <|
 some (q4_13.1,(List.set s_l (Int.toNat n) (q4_13.2.1,q4_13.2.2)),(List.set s_given (Int.toNat n) true))
def C75 : Con where
 X := (List (LI×LI))×(List Bool)×Int×(LI×LI)
 Y := Int×(List (LI×LI))×(List Bool)
 e := 3
 args x := [P0 0 0,.dat T2 x.2.2.1,.dat T3 x.2.2.2]
 hin x := [(0,.cells [(.osl 1),(.osl 2)]),(1,.arr 35 T3 x.1),(2,.arr 4 .bool x.2.1)]
 F x := f75 x.1 x.2.1 x.2.2.1 x.2.2.2
 ret y := [.dat T2 y.1]
 hout y := [(0,.cells [(.osl 1),(.osl 2)]),(1,.arr 35 T3 y.2.1),(2,.arr 4 .bool y.2.2)]
 nout := 3
theorem C75_vc (s_l : List (LI×LI)) (s_given : List Bool) (n:Int) (g : LI×LI) (y : Int×(List (LI×LI))×(List Bool)) (q : f75 s_l s_given n g = some y) : VE Tryz.f75 3 C75 (s_l,s_given,n,g) y := by
 unfold f75 at q
 refine OL (OL (OL (cI q (fun q=>?_) (fun q=>?_))))
 ·cases sE q
  refine OL (AI rfl (E4 I3 (R2 (AI TV (R3 TV)))))
 refine OL (OL (EI (.take 0 (.take 1 (.take 2 (.take 3 (.take 4 (.take 5 (.take 6 (.take 7 (.take 8 (.take 9 (.take 10 (.take 11 (.take 12 (.alt 13 (.take 14 (.take 15 (.take 16 (.take 17 (.alt 18 (.take 19 .done) .done))))) .done)))))))))))))) (EI [(18,[1])] (EI [] (AI rfl (gI q (fun q=>?_)))))))
 refine AI TV ?_
 obtain ⟨q4_13,hq4_13,q⟩ := bE q
 refine OL (AI f113_in (cV (cQ C113 (((rd (Ty.z T3) s_l n).1,(rd (Ty.z T3) s_l n).2),(g.1,g.2)) q4_13 [] false C113_holds hq4_13 rfl rfl (R4 (K0 (gI q (fun q=>?_)))))))
 refine AI TV (OL (OL (gI q (fun q=>?_))))
 refine OL (OL ?_)
 cases sE q
 refine AI rfl (E4 I3 (R2 (AI TV (R3 TV))))
theorem C75_holds : HP C75 75 := hH Tryz.f75 (by kernel_rfl) rfl (fun x y q=>C75_vc x.1 x.2.1 x.2.2.1 x.2.2.2 y q)
theorem f75_in : InP 75 := inP (by kernel_rfl)
def f26_l1 (root:Int) (go : (Int×NL×(List (LI×LI))×Int×LI×LI) → Option (NL×(List (LI×LI))×Int×LI×LI)) (v43:Int) (l1 : NL) (l3 : List (LI×LI)) (i3:Int) (l5 : LI) (l6 : LI) : Option (NL×(List (LI×LI))×Int×LI×LI) :=
 bif (decide (v43 < (i64.wrap (root + (1:Int))))) then
 bindF (f58 l1 v43) fun q12_10 =>
 bindF (f68 q12_10.2.1 (0:Int)) fun r6 =>
 guardF ((List.length (List.set l3 (Int.toNat i3) (l5,l6)) + 1) * 48 ≤ 140737488355328) <|
 go ((i64.wrap (v43 + (1:Int))),q12_10.2.2.2,((List.set l3 (Int.toNat i3) (l5,l6)) ++ [(Ty.z T3)]),(List.length (List.set l3 (Int.toNat i3) (l5,l6)):Int),r6.2.1,r6.2.2)
 else
 some (l1,l3,i3,l5,l6)
def f26_l2 (go : (Int×NL×(List (LI×LI))×(List Bool)) → Option (Sum (Int×NL) ((List (LI×LI))×(List Bool)×NL))) (n:Int) (l1 : NL) (l3 : List (LI×LI)) (l4 : List Bool) : Option (Sum (Int×NL) ((List (LI×LI))×(List Bool)×NL)) :=
 bif (decide (n ≥ (0:Int))) then
 guardF (0 ≤ n ∧ n < (List.length l4:Int)) <|
 bif (!(rd false l4 n)) then
 go ((i64.wrap (n - (1:Int))),l1,l3,l4)
 else
 bindF (f24 l1 n) fun r15 =>
 guardF (0 ≤ n ∧ n < (List.length l3:Int)) <|
 bindF (f74 r15.2.2.2.2.2.2.2 n ((rd (Ty.z T3) l3 n).1,(rd (Ty.z T3) l3 n).2)) fun r16 =>
 bif (r16.1 != (0:Int)) then
 some (Sum.inl (r16.1,r16.2.2.2.2.2))
 else
 bindF (f75 l3 l4 r15.2.1 (r16.2.1,r16.2.2.1)) fun r17 =>
 bif (r17.1 != (0:Int)) then
 some (Sum.inl (r17.1,r16.2.2.2.2.2))
 else
 bindF (f75 r17.2.1 r17.2.2 r15.2.2.1 (r16.2.2.2.1,r16.2.2.2.2.1)) fun r18 =>
 bif (r18.1 != (0:Int)) then
 some (Sum.inl (r18.1,r16.2.2.2.2.2))
 else
 go ((i64.wrap (n - (1:Int))),r16.2.2.2.2.2,r18.2.1,r18.2.2)
 else
 some (Sum.inr (l3,l4,l1))
def f26 (t_l : NL) (root:Int) : Option (Int×(List (LI×LI))×NL) :=
 bindF (f58 t_l root) fun r1 =>
 bif (!r1.1) then
 some ((1:Int),[],r1.2.2.2)
 else
 bif (decide ((List.length r1.2.2.1:Int) > (1:Int))) then
 some ((4:Int),[],r1.2.2.2)
 else
 guardF (0 ≤ (i64.wrap (root + (1:Int))) ∧ (i64.wrap (root + (1:Int))) ≤ (i64.wrap (root + (1:Int))) ∧ Int.toNat (i64.wrap (root + (1:Int))) * 1 ≤ 140737488355328) <|
 bindF (loopF (fun go x=>f26_l1 root go x.1 x.2.1 x.2.2.1 x.2.2.2.1 x.2.2.2.2.1 x.2.2.2.2.2) fuelN ((0:Int),r1.2.2.2,[],(0:Int),[],[])) fun z5 =>
 guardF (0 ≤ root ∧ root < (List.length z5.2.1:Int)) <|
 guardF (root = z5.2.2.1) <|
 guardF (0 ≤ (0:Int) ∧ (0:Int) < (List.length z5.2.2.2.2:Int)) <|
 guardF (0 ≤ root ∧ root < (List.length (List.replicate (Int.toNat (i64.wrap (root + (1:Int)))) false):Int)) <|
 bindF (loopF (fun go x=>f26_l2 go x.1 x.2.1 x.2.2.1 x.2.2.2) fuelN (root,z5.1,(List.set z5.2.1 (Int.toNat z5.2.2.1) (z5.2.2.2.1,(List.set z5.2.2.2.2 (Int.toNat (0:Int)) (4294967296:Int)))),(List.set (List.replicate (Int.toNat (i64.wrap (root + (1:Int)))) false) (Int.toNat root) true))) fun z14 =>
 sumF z14 (fun z14a =>
 some (z14a.1,[],z14a.2)) (fun z14b =>
 some ((0:Int),z14b.1,z14b.2.2))
def C26 : Con where
 X := NL×Int
 Y := Int×(List (LI×LI))×NL
 e := 2
 args x := [P0 0 0,.dat T2 x.2]
 hin x := [(0,.cells [(.osl 1)]),(1,.arr 42 T0 x.1)]
 F x := f26 x.1 x.2
 ret y := [O0 2,.dat T2 y.1]
 hout y := [(0,.cells [(.osl 1)]),(1,.arr 42 T0 y.2.2),(2,.arr 35 T3 y.2.1)]
 nout := 3
theorem C26_vc (t_l : NL) (root:Int) (y : Int×(List (LI×LI))×NL) (q : f26 t_l root = some y) : VE Tryz.f26 2 C26 (t_l,root) y := by
 unfold f26 at q
 refine OL (OL ?_)
 obtain ⟨r1,hr1,q⟩ := bE q
 refine OL (AI f58_in (cV (cQ C58 (t_l,root) r1 I2 false C58_holds hr1 rfl rfl (AI rfl (AI NH (R2 (AJ (AI (R2 TV) (OL (OL (OL (cI q (fun q=>?_) (fun q=>?_)))))))))))))
 ·cases sE q
  refine OL (AI rfl (E4 [(0,some 0),(1,some 1),(2,none)] (R2 (AJ (R3 TV)))))
 refine OL (cI q (fun q=>?_) (fun q=>?_))
 ·cases sE q
  refine OL (AI rfl (E4 [(0,some 0),(1,some 1),(2,none)] (R2 (AJ (R3 TV)))))
 refine OL (gI q (fun q=>?_))
 refine OL (OL ?_)
 obtain ⟨z5,hz5,q⟩ := bE q
 refine lI (Int×NL×(List (LI×LI))×Int×LI×LI) (NL×(List (LI×LI))×Int×LI×LI) (fun x=>⟨[(0,P0 0 0),(1,.dat T2 root),(8,P0 2 0),(42,.dat T2 (i64.wrap (root + (1:Int)))),(43,.dat T2 x.1)],[(0,.cells [(.osl 1)]),(1,.arr 42 T0 x.2.1),(2,.cells [(.osl 3),(.osl 4)]),(3,.hol 35 T3 x.2.2.1 x.2.2.2.1 [(.osl 5),(.osl 6)]),(4,.arr 4 .bool (List.replicate (Int.toNat (i64.wrap (root + (1:Int)))) false)),(5,.arr 3 T2 x.2.2.2.2.1),(6,.arr 40 T2 x.2.2.2.2.2)],7⟩) (fun z=>[(3,⟨[(0,P0 0 0),(1,.dat T2 root),(8,P0 2 0)],[(0,.cells [(.osl 1)]),(1,.arr 42 T0 z.1),(2,.cells [(.osl 3),(.osl 4)]),(3,.hol 35 T3 z.2.1 z.2.2.1 [(.osl 5),(.osl 6)]),(4,.arr 4 .bool (List.replicate (Int.toNat (i64.wrap (root + (1:Int)))) false)),(5,.arr 3 T2 z.2.2.2.1),(6,.arr 40 T2 z.2.2.2.2)],7⟩)]) (loopF (fun go x=>f26_l1 root go x.1 x.2.1 x.2.2.1 x.2.2.2.1 x.2.2.2.2.1 x.2.2.2.2.2)) fuelN ((0:Int),r1.2.2.2,[],(0:Int),[],[]) z5 (AI hz5 (AI (E4 [(0,some 0),(1,some 1),(2,some 8),(3,none),(4,some 7),(5,none),(6,none)] (R4 (AI (R2 TV) (R7 TV)))) (AI (fun _ _ h=>lZ h) (AI (fun m=>curI (fun v43=>curI (fun l1=>curI (fun l3=>curI (fun i3=>curI (fun l5=>fun l6 z q=>?_)))))) ?_))))
 ·have q : f26_l1 root (loopF (fun go x=>f26_l1 root go x.1 x.2.1 x.2.2.1 x.2.2.2.1 x.2.2.2.2.1 x.2.2.2.2.2) m) v43 l1 l3 i3 l5 l6 = some z := q
  unfold f26_l1 at q
  refine OL (OL (cI q (fun q=>?_) (fun q=>?_)))
  ·refine OL (OL (OL ?_))
   obtain ⟨q12_10,hq12_10,q⟩ := bE q
   refine OL (AI f58_in (cV (cQ C58 (l1,v43) q12_10 I2 false C58_holds hq12_10 rfl rfl (AI rfl (AI NH (R2 (AJ (AI (R2 TV) (OL (OL ?_))))))))))
   obtain ⟨r6,hr6,q⟩ := bE q
   refine OL (AI f68_in (cV (cQ C68 (q12_10.2.1,(0:Int)) r6 [] true C68_holds hr6 rfl rfl (R2 (AI (fun _=>rfl) (R2 (AI TV (AI TV (OL (EI (.take 0 (.take 1 (.take 2 (.take 3 (.take 4 (.take 5 (.alt 6 (.alt 7 (.take 8 (.take 9 (.alt 10 .done .done))) .done) .done))))))) (EI [(10,[2])] (EI [] (AI rfl (AI TV (OQ (AI TV (OQ (AI rfl (AI (AI rfl rfl) (gI q (fun q=>?_)))))))))))))))))))))
   refine AI TV (OL (EI ((i64.wrap (v43 + (1:Int))),q12_10.2.2.2,((List.set l3 (Int.toNat i3) (l5,l6)) ++ [(Ty.z T3)]),(List.length (List.set l3 (Int.toNat i3) (l5,l6)):Int),r6.2.1,r6.2.2) (AI q (E4 [(0,some 0),(1,some 1),(2,some 2),(3,some 16),(4,some 4),(5,some 12),(6,some 13)] (R4 (AI (R2 TV) (R7 TV)))))))
  cases sE q
  refine E4 I7 (R2 (AI (R2 TV) (R7 TV)))
 refine AI (OL (EI (.take 0 (.take 1 (.take 2 (.take 3 (.take 4 (.take 5 (.take 6 (.take 7 (.take 8 (.take 9 (.take 10 (.take 11 (.take 12 (.take 13 (.alt 14 (.take 15 (.alt 16 .done .done)) .done))))))))))))))) (EI [] (EI [] (AI rfl (gI q (fun q=>?_))))))) TV
 refine gI q (fun q=>?_)
 refine gI q (fun q=>?_)
 refine AI TV (OL (gI q (fun q=>?_)))
 refine AI TV (OL (OL (OL ?_)))
 obtain ⟨z14,hz14,q⟩ := bE q
 refine lI (Int×NL×(List (LI×LI))×(List Bool)) (Sum (Int×NL) ((List (LI×LI))×(List Bool)×NL)) (fun x=>⟨[(0,P0 0 0),(8,P0 2 0),(14,.dat T2 x.1)],[(0,.cells [(.osl 1)]),(1,.arr 42 T0 x.2.1),(2,.cells [(.osl 3),(.osl 4)]),(3,.arr 35 T3 x.2.2.1),(4,.arr 4 .bool x.2.2.2)],5⟩) (fun z=>Sum.elim (fun za=>[(1,⟨[(4,.raw false [N0]),(5,.dat T2 za.1)],[(0,.cells [(.osl 1)]),(1,.arr 42 T0 za.2)],2⟩)]) (fun zb=>[(5,⟨[(8,P0 2 0)],[(0,.cells [(.osl 1)]),(1,.arr 42 T0 zb.2.2),(2,.cells [(.osl 3),(.osl 4)]),(3,.arr 35 T3 zb.1),(4,.arr 4 .bool zb.2.1)],5⟩)]) z) (loopF (fun go x=>f26_l2 go x.1 x.2.1 x.2.2.1 x.2.2.2)) fuelN (root,z5.1,(List.set z5.2.1 (Int.toNat z5.2.2.1) (z5.2.2.2.1,(List.set z5.2.2.2.2 (Int.toNat (0:Int)) (4294967296:Int)))),(List.set (List.replicate (Int.toNat (i64.wrap (root + (1:Int)))) false) (Int.toNat root) true)) z14 (AI hz14 (AI (EI [3] (AI rfl (EI [] (EI [] (EI [] (EI I5 (R2 (AI (R2 TV) (R5 TV))))))))) (AI (fun _ _ h=>lZ h) (AI (fun m=>curI (fun n=>curI (fun l1=>curI (fun l3=>fun l4 z q=>?_)))) ?_))))
 ·have q : f26_l2 (loopF (fun go x=>f26_l2 go x.1 x.2.1 x.2.2.1 x.2.2.2) m) n l1 l3 l4 = some z := q
  unfold f26_l2 at q
  refine OL (OL (cI q (fun q=>?_) (fun q=>?_)))
  ·refine OL (OL (OL (gI q (fun q=>?_))))
   refine cI q (fun q=>?_) (fun q=>?_)
   ·refine EI ((i64.wrap (n - (1:Int))),l1,l3,l4) (AI q (E4 I5 (R2 (AI (R2 TV) (R5 TV)))))
   refine OL ?_
   obtain ⟨r15,hr15,q⟩ := bE q
   refine OL (AI f24_in (cV (cQ C24 (l1,n) r15 I2 false C24_holds hr15 rfl rfl (AI rfl (AI NH (R2 (AJ (AI (R2 TV) (OL (OL (gI q (fun q=>?_))))))))))))
   obtain ⟨r16,hr16,q⟩ := bE q
   refine OL (AI f74_in (cV (cQ C74 (r15.2.2.2.2.2.2.2,n,((rd (Ty.z T3) l3 n).1,(rd (Ty.z T3) l3 n).2)) r16 I2 false C74_holds hr16 rfl rfl (R3 (AI NH (R2 (AJ (AI (R2 TV) (OL (OL (OL (OL (cI q (fun q=>?_) (fun q=>?_))))))))))))))
   ·cases sE q
    refine OL (E4 I2 (R2 (AJ (R2 TV))))
   refine OL (OL ?_)
   obtain ⟨r17,hr17,q⟩ := bE q
   refine OL (AI f75_in (cV (cQ C75 (l3,l4,r15.2.1,(r16.2.1,r16.2.2.1)) r17 [(0,some 2),(1,some 3),(2,some 4)] false C75_holds hr17 rfl rfl (R3 (AI NH (R2 (AJ (AI (R3 TV) (OL (cI q (fun q=>?_) (fun q=>?_)))))))))))
   ·cases sE q
    refine OL (E4 I2 (R2 (AJ (R2 TV))))
   refine OL ?_
   obtain ⟨r18,hr18,q⟩ := bE q
   refine OL (AI f75_in (cV (cQ C75 (r17.2.1,r17.2.2,r15.2.2.1,(r16.2.2.2.1,r16.2.2.2.2.1)) r18 [(0,some 2),(1,some 3),(2,some 4)] false C75_holds hr18 rfl rfl (R3 (AI NH (R2 (AJ (AI (R3 TV) (OL (cI q (fun q=>?_) (fun q=>?_)))))))))))
   ·cases sE q
    refine OL (E4 I2 (R2 (AJ (R2 TV))))
   refine EI ((i64.wrap (n - (1:Int))),r16.2.2.2.2.2,r18.2.1,r18.2.2) (AI q (E4 I5 (R2 (AI (R2 TV) (R5 TV)))))
  cases sE q
  refine E4 I5 (AI rfl (AJ (R5 TV)))
 rcases z14 with z14a | z14b
 ·dsimp only [sumF] at q
  refine AI ?_ TV
  cases sE q
  refine AI rfl (E4 [(0,some 0),(1,some 1),(2,none)] (R2 (AJ (R3 TV))))
 dsimp only [sumF] at q
 refine AI (OL ?_) TV
 cases sE q
 refine AI rfl (E4 [(0,some 0),(1,some 1),(2,some 3)] (R2 (AJ (R3 TV))))
theorem C26_holds : HP C26 26 := hH Tryz.f26 (by kernel_rfl) rfl (fun x y q=>C26_vc x.1 x.2 y q)
theorem f26_in : InP 26 := inP (by kernel_rfl)
end Go.Proofs
