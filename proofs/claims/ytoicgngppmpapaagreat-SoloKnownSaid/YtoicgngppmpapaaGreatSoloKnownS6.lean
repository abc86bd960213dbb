import Derived.Test.YtoicgngppmpapaaGreatSoloKnownS5
set_option linter.unusedVariables false
set_option maxRecDepth 100000
set_option maxHeartbeats 8000000
namespace Go.Proofs
open Go.AM
open IntKind (i64 u64 i32 u32 i16 u16 i8 u8)
def f23_j1 (t_L : NL) (kind:Int) (out:Int) (want : LI) : Option (Sum Unit Unit) :=
 bif (decide (out < (0:Int))) then
 some (Sum.inr ())
 else
 bif (decide (out ≥ (List.length t_L:Int))) then
 some (Sum.inr ())
 else
 bif (kind != (3:Int)) then
 guardF (0 ≤ out ∧ out < (List.length t_L:Int)) <|
 bif ((List.length want:Int) != (List.length ((((((rd (Ty.z T0) t_L out).2).2).2).2).2):Int)) then
 some (Sum.inr ())
 else
 some (Sum.inl ())
 else
 some (Sum.inl ())
def f23_j2 (t_L : NL) (kind:Int) (out:Int) (class_:Int) : Option (Sum Unit Unit) :=
 bif ((List.length ((((((rd (Ty.z T0) t_L out).2).2).2).2).1):Int) != (1:Int)) then
 some (Sum.inr ())
 else
 bif (kind == (3:Int)) then
 bif (decide (class_ < (0:Int))) then
 some (Sum.inr ())
 else
 guardF (0 ≤ (0:Int) ∧ (0:Int) < (List.length ((((((rd (Ty.z T0) t_L out).2).2).2).2).1):Int)) <|
 bif (decide (class_ ≥ (rd (0:Int) ((((((rd (Ty.z T0) t_L out).2).2).2).2).1) (0:Int)))) then
 some (Sum.inr ())
 else
 some (Sum.inl ())
 else
 some (Sum.inl ())
def f23_j3 (out:Int) (r3 : Int×Int×NL) : Option (Int×Int×NL) :=
 bif (r3.2.1 == (0:Int)) then
 bindF (f70 r3.2.2 (3:Int) out r3.1 (0:Int)) fun r6 =>
 some (r6.1,r6.2.1,r6.2.2)
 else
 some (r3.1,r3.2.1,r3.2.2)
def f23_j6 (kind:Int) (z5 : Int×Int×NL) : Option Bool :=
 bif (z5.2.1 == (0:Int)) then
 some (kind == (1:Int))
 else
 some false
def f23_j5 (kind:Int) (z5 : Int×Int×NL) : Option (Int×Int×NL) :=
 bindF (f23_j6 kind z5) fun z10 =>
 bif z10 then
 bindF (f70 z5.2.2 (4:Int) z5.1 z5.1 (0:Int)) fun r11 =>
 some (r11.1,r11.2.1,r11.2.2)
 else
 some (z5.1,z5.2.1,z5.2.2)
def f23_j9 (kind:Int) (z9 : Int×Int×NL) : Option Bool :=
 bif (z9.2.1 == (0:Int)) then
 some (kind == (2:Int))
 else
 some false
def f23_j8 (kind:Int) (z9 : Int×Int×NL) : Option (Int×Int×NL) :=
 bindF (f23_j9 kind z9) fun z15 =>
 bif z15 then
 bindF (f70 z9.2.2 (11:Int) z9.1 (-1:Int) (4:Int)) fun r16 =>
 some (r16.1,r16.2.1,r16.2.2)
 else
 some (z9.1,z9.2.1,z9.2.2)
def f23_j10 (z14 : Int×Int×NL) : Option (Int×Int×NL) :=
 bif (z14.2.1 == (0:Int)) then
 bindF (f70 z14.2.2 (10:Int) z14.1 (-1:Int) (0:Int)) fun r19 =>
 some (r19.1,r19.2.1,r19.2.2)
 else
 some (z14.1,z14.2.1,z14.2.2)
def f23_j11 (class_:Int) (r21 : LI×LI) (r22 : Int×Int×NL) : Option (Int×Int×NL) :=
 bif (r22.2.1 == (0:Int)) then
 bindF (f19 r22.2.2 (r21.1,(List.set r21.2 (Int.toNat class_) (0:Int)))) fun r25 =>
 some (r25.2.1,r25.1,r25.2.2)
 else
 some (r22.2.1,(0:Int),r22.2.2)
def f23_j12 (out:Int) (r22 : Int×Int×NL) (z24 : Int×Int×NL) : Option (Int×Int×NL) :=
 bif (z24.1 == (0:Int)) then
 bindF (f70 z24.2.2 (4:Int) out r22.1 (0:Int)) fun r28 =>
 some (r28.2.1,r28.1,r28.2.2)
 else
 some (z24.1,(0:Int),z24.2.2)
def f23_j13 (z27 : Int×Int×NL) : Option (Int×Int×NL) :=
 bif (z27.1 == (0:Int)) then
 bindF (f70 z27.2.2 (9:Int) z27.2.1 (-1:Int) (0:Int)) fun r31 =>
 some (r31.2.1,r31.1,r31.2.2)
 else
 some (z27.1,z27.2.1,z27.2.2)
def f23_j14 (out:Int) (z30 : Int×Int×NL) : Option (Int×Int×NL) :=
 bif (z30.1 == (0:Int)) then
 bindF (f70 z30.2.2 (2:Int) out z30.2.1 (0:Int)) fun r34 =>
 some (r34.2.1,r34.1,r34.2.2)
 else
 some (z30.1,z30.2.1,z30.2.2)
def f23_j15 (z24 : Int×Int×NL) (z33 : Int×Int×NL) : Option (Int×Int×NL) :=
 bif (z33.1 == (0:Int)) then
 bindF (f70 z33.2.2 (2:Int) z33.2.1 z24.2.1 (0:Int)) fun r37 =>
 some (r37.2.1,r37.1,r37.2.2)
 else
 some (z33.1,z33.2.1,z33.2.2)
def f23_j16 (z36 : Int×Int×NL) : Option (Int×Int×NL) :=
 bif (z36.1 == (0:Int)) then
 bindF (f70 z36.2.2 (11:Int) z36.2.1 (-1:Int) (1:Int)) fun r40 =>
 some (r40.2.1,r40.1,r40.2.2)
 else
 some (z36.1,z36.2.1,z36.2.2)
def f23_j17 (z24 : Int×Int×NL) (z39 : Int×Int×NL) : Option (Int×Int×NL) :=
 bif (z39.1 == (0:Int)) then
 bindF (f70 z39.2.2 (4:Int) z39.2.1 z24.2.1 (0:Int)) fun r43 =>
 some (r43.2.1,r43.1,r43.2.2)
 else
 some (z39.1,z39.2.1,z39.2.2)
def f23_j18 (z42 : Int×Int×NL) : Option (Int×Int×NL) :=
 bif (z42.1 == (0:Int)) then
 bindF (f70 z42.2.2 (9:Int) z42.2.1 (-1:Int) (0:Int)) fun r46 =>
 some (r46.2.1,r46.1,r46.2.2)
 else
 some (z42.1,z42.2.1,z42.2.2)
def f23 (t_L : NL) (kind:Int) (out:Int) (want : LI) (class_:Int) : Option (Int×Int×NL) :=
 bindF (f23_j1 t_L kind out want) fun z1 =>
 sumF z1 (fun z1a =>
 guardF (0 ≤ out ∧ out < (List.length t_L:Int)) <|
 bindF (f23_j2 t_L kind out class_) fun z2 =>
 sumF z2 (fun z2a =>
 bif (kind != (3:Int)) then
 bindF (f19 t_L ((((((rd (Ty.z T0) t_L out).2).2).2).2).1,want)) fun r3 =>
 bindF (f23_j3 out r3) fun z5 =>
 bindF (f23_j5 kind z5) fun z9 =>
 bindF (f23_j8 kind z9) fun z14 =>
 bindF (f23_j10 z14) fun z18 =>
 bif (z18.2.1 != (0:Int)) then
 some ((0:Int),z18.2.1,z18.2.2)
 else
 some (z18.1,(0:Int),z18.2.2)
 else
 bindF (f71 ((((((rd (Ty.z T0) t_L out).2).2).2).2).1) (0:Int)) fun r20 =>
 bindF (f71 ((((((rd (Ty.z T0) t_L out).2).2).2).2).1) (4294967296:Int)) fun r21 =>
 guardF (0 ≤ class_ ∧ class_ < (List.length r20.2:Int)) <|
 guardF (0 ≤ class_ ∧ class_ < (List.length r21.2:Int)) <|
 bindF (f19 t_L (r20.1,(List.set r20.2 (Int.toNat class_) (-4294967296:Int)))) fun r22 =>
 bindF (f23_j11 class_ r21 r22) fun z24 =>
 bindF (f23_j12 out r22 z24) fun z27 =>
 bindF (f23_j13 z27) fun z30 =>
 bindF (f23_j14 out z30) fun z33 =>
 bindF (f23_j15 z24 z33) fun z36 =>
 bindF (f23_j16 z36) fun z39 =>
 bindF (f23_j17 z24 z39) fun z42 =>
 bindF (f23_j18 z42) fun z45 =>
 bif (z45.1 != (0:Int)) then
 some ((0:Int),z45.1,z45.2.2)
 else
 some (z45.2.1,(0:Int),z45.2.2)) (fun z2b =>
 some ((0:Int),(4:Int),t_L))) (fun z1b =>
 some ((0:Int),(1:Int),t_L))
def C23 : Con where
 X := NL×Int×Int×LI×Int
 Y := Int×Int×NL
 e := 2
 args x := [P0 0 0,.dat T2 x.2.1,.dat T2 x.2.2.1,.dat T1 x.2.2.2.1,.dat T2 x.2.2.2.2]
 hin x := [(0,.cells [(.osl 1)]),(1,.arr 45 T0 x.1)]
 F x := f23 x.1 x.2.1 x.2.2.1 x.2.2.2.1 x.2.2.2.2
 ret y := [.dat T2 y.1,.dat T2 y.2.1]
 hout y := [(0,.cells [(.osl 2)]),(2,.arr 45 T0 y.2.2)]
 nout := 3
theorem C23_vc (t_L : NL) (kind:Int) (out:Int) (want : LI) (class_:Int) (y : Int×Int×NL) (q : f23 t_L kind out want class_ = some y) : VE Tryz.f23 2 C23 (t_L,kind,out,want,class_) y := by
 unfold f23 at q
 refine OL ?_
 obtain ⟨z1,hz1,q⟩ := bE q
 refine OQ ⟨Sum.elim (fun z1a=>[(0,⟨[(0,P0 0 0),(1,.dat T2 kind),(2,.dat T2 out),(3,.dat T1 want),(4,.dat T2 class_)],[(0,.cells [(.osl 1)]),(1,.arr 45 T0 t_L)],2⟩)]) (fun z1b=>[(1,⟨[(10,D0 0),(11,D0 1)],[(0,.cells [(.osl 1)]),(1,.arr 45 T0 t_L)],2⟩)]) z1,?_,?_⟩
 ·have q := hz1
  clear hz1
  unfold f23_j1 at q
  refine OL (cN q (fun q=>?_) (fun q=>?_))
  ·refine gY (gY (gY (gY (gY (gY (cF (cN q (fun q=>?_) (fun q=>?_))))))))
   ·refine gY (gY (cI q (fun q=>?_) (fun q=>?_)))
    ·refine gX (gX (gX (gX (gX (gX (gX (gI q (fun q=>?_))))))))
     refine gX (gX (gX (gX (gX (gY (cT (cF (cI q (fun q=>?_) (fun q=>?_)))))))))
     ·cases sE q
      refine OL (E4 I2 (R3 (AI TV (R2 TV))))
     cases sE q
     refine E4 I2 (R5 (AJ (R2 TV)))
    refine gM (gM (gM (gM (gM (gM (gM (gM (gM (gM (gM (gM (gY (cF (cF (cF ?_)))))))))))))))
    cases sE q
    refine E4 I2 (R5 (AJ (R2 TV)))
   refine gN (gN (gN (cT (cT (OL ?_)))))
   cases sE q
   refine E4 I2 (R3 (AI TV (R2 TV)))
  refine gN (gN (gN (gN (gN (gN (cT (gN (gN (gN (gN (cT (cT (OL ?_)))))))))))))
  cases sE q
  refine E4 I2 (R3 (AI TV (R2 TV)))
 rcases z1 with z1a | z1b
 ·dsimp only [sumF] at q
  refine AI (OL (gI q (fun q=>?_))) TV
  obtain ⟨z2,hz2,q⟩ := bE q
  refine OQ ⟨Sum.elim (fun z2a=>[(0,⟨[(0,P0 0 0),(1,.dat T2 kind),(2,.dat T2 out),(3,.dat T1 want),(4,.dat T2 class_),(12,.dat T1 ((((((rd (Ty.z T0) t_L out).2).2).2).2).1))],[(0,.cells [(.osl 1)]),(1,.arr 45 T0 t_L)],2⟩)]) (fun z2b=>[(1,⟨[(10,D0 0),(11,D0 4)],[(0,.cells [(.osl 1)]),(1,.arr 45 T0 t_L)],2⟩)]) z2,?_,?_⟩
  ·have q := hz2
   clear hz2
   unfold f23_j2 at q
   refine OL (cN q (fun q=>?_) (fun q=>?_))
   ·refine gY (gY (cI q (fun q=>?_) (fun q=>?_)))
    ·refine gX (gX (cN q (fun q=>?_) (fun q=>?_)))
     ·refine gY (gY (gI q (fun q=>?_)))
      refine gY (gY (gX (cF (gY (cT (cF (cI q (fun q=>?_) (fun q=>?_))))))))
      ·cases sE q
       refine OL (E4 I2 (R3 (AI TV (R2 TV))))
      cases sE q
      refine E4 I2 (R6 (AJ (R2 TV)))
     refine gN (gN (gN (gN (gX (cT (gY (cT (cF (cT (OL ?_))))))))))
     cases sE q
     refine E4 I2 (R3 (AI TV (R2 TV)))
    refine gM (gM (gM (gY (cF (cF (cF ?_))))))
    cases sE q
    refine E4 I2 (R6 (AJ (R2 TV)))
   refine gN (gN (gN (cT (cT (OL ?_)))))
   cases sE q
   refine E4 I2 (R3 (AI TV (R2 TV)))
  rcases z2 with z2a | z2b
  ·dsimp only [sumF] at q
   refine AI (OL (OL (cI q (fun q=>?_) (fun q=>?_)))) TV
   ·refine OL ?_
    obtain ⟨r3,hr3,q⟩ := bE q
    refine OL (AI f19_in (cV (cQ C19 (t_L,((((((rd (Ty.z T0) t_L out).2).2).2).2).1,want)) r3 I2 false C19_holds hr3 rfl rfl (R2 (AI NH (R2 (AJ (AI (R2 TV) ?_))))))))
    obtain ⟨z5,hz5,q⟩ := bE q
    refine OQ ⟨[(0,⟨[(0,P0 0 0),(1,.dat T2 kind),(13,.dat T2 z5.1),(14,.dat T2 z5.2.1)],[(0,.cells [(.osl 2)]),(2,.arr 45 T0 z5.2.2)],3⟩)],?_,?_⟩
    ·have q := hz5
     clear hz5
     unfold f23_j3 at q
     refine OL (cI q (fun q=>?_) (fun q=>?_))
     ·obtain ⟨r6,hr6,q⟩ := bE q
      refine OL (AI f70_in (cV (cQ C70 (r3.2.2,(3:Int),out,r3.1,(0:Int)) r6 [(0,some 0),(1,some 4)] false C70_holds hr6 rfl rfl (R4 (AI NH (R2 (AJ (AI (R2 TV) ?_))))))))
      cases sE q
      refine E4 [(0,some 0),(2,some 7)] (R4 (AJ (R2 TV)))
     cases sE q
     refine E4 [(0,some 0),(2,some 4)] (R4 (AJ (R2 TV)))
    refine AI ?_ TV
    obtain ⟨z9,hz9,q⟩ := bE q
    refine OQ ⟨[(0,⟨[(0,P0 0 0),(1,.dat T2 kind),(13,.dat T2 z9.1),(14,.dat T2 z9.2.1)],[(0,.cells [(.osl 2)]),(2,.arr 45 T0 z9.2.2)],3⟩)],?_,?_⟩
    ·have q := hz9
     clear hz9
     unfold f23_j5 at q
     obtain ⟨z10,hz10,q⟩ := bE q
     refine OQ ⟨[(0,⟨[(0,P0 0 0),(1,.dat T2 kind),(13,.dat T2 z5.1),(14,.dat T2 z5.2.1),(102,.dat .bool z10)],[(0,.cells [(.osl 2)]),(2,.arr 45 T0 z5.2.2)],3⟩)],?_,?_⟩
     ·have q := hz10
      clear hz10
      unfold f23_j6 at q
      refine cI q (fun q=>?_) (fun q=>?_)
      ·refine gX (cT ?_)
       cases sE q
       refine E4 [(0,some 0),(2,some 2)] (R5 (AJ (R2 TV)))
      refine gM (cF ?_)
      cases sE q
      refine E4 [(0,some 0),(2,some 2)] (R5 (AJ (R2 TV)))
     refine AI (cI q (fun q=>?_) (fun q=>?_)) TV
     ·obtain ⟨r11,hr11,q⟩ := bE q
      refine OL (AI f70_in (cV (cQ C70 (z5.2.2,(4:Int),z5.1,z5.1,(0:Int)) r11 [(0,some 0),(1,some 2)] false C70_holds hr11 rfl rfl (R4 (AI NH (R2 (AJ (AI (R2 TV) ?_))))))))
      cases sE q
      refine E4 [(0,some 0),(2,some 5)] (R4 (AJ (R2 TV)))
     cases sE q
     refine E4 [(0,some 0),(2,some 2)] (R4 (AJ (R2 TV)))
    refine AI ?_ TV
    obtain ⟨z14,hz14,q⟩ := bE q
    refine OQ ⟨[(0,⟨[(0,P0 0 0),(13,.dat T2 z14.1),(14,.dat T2 z14.2.1)],[(0,.cells [(.osl 2)]),(2,.arr 45 T0 z14.2.2)],3⟩)],?_,?_⟩
    ·have q := hz14
     clear hz14
     unfold f23_j8 at q
     obtain ⟨z15,hz15,q⟩ := bE q
     refine OQ ⟨[(0,⟨[(0,P0 0 0),(13,.dat T2 z9.1),(14,.dat T2 z9.2.1),(115,.dat .bool z15)],[(0,.cells [(.osl 2)]),(2,.arr 45 T0 z9.2.2)],3⟩)],?_,?_⟩
     ·have q := hz15
      clear hz15
      unfold f23_j9 at q
      refine cI q (fun q=>?_) (fun q=>?_)
      ·refine gX (cT ?_)
       cases sE q
       refine E4 [(0,some 0),(2,some 2)] (R4 (AJ (R2 TV)))
      refine gM (cF ?_)
      cases sE q
      refine E4 [(0,some 0),(2,some 2)] (R4 (AJ (R2 TV)))
     refine AI (cI q (fun q=>?_) (fun q=>?_)) TV
     ·obtain ⟨r16,hr16,q⟩ := bE q
      have hr16 : C70.F (z9.2.2,(11:Int),z9.1,(-1:Int),(4:Int)) = some r16 := hr16
      refine OL (AI f70_in (cV (cQ C70 _ r16 [(0,some 0),(1,some 2)] false C70_holds hr16 rfl rfl (R4 (AI NH (R2 (AJ (AI (R2 TV) ?_))))))))
      cases sE q
      refine E4 [(0,some 0),(2,some 5)] (R3 (AJ (R2 TV)))
     cases sE q
     refine E4 [(0,some 0),(2,some 2)] (R3 (AJ (R2 TV)))
    refine AI ?_ TV
    obtain ⟨z18,hz18,q⟩ := bE q
    refine OQ ⟨[(0,⟨[(13,.dat T2 z18.1),(14,.dat T2 z18.2.1)],[(0,.cells [(.osl 2)]),(2,.arr 45 T0 z18.2.2)],3⟩)],?_,?_⟩
    ·have q := hz18
     clear hz18
     unfold f23_j10 at q
     refine OL (cI q (fun q=>?_) (fun q=>?_))
     ·obtain ⟨r19,hr19,q⟩ := bE q
      have hr19 : C70.F (z14.2.2,(10:Int),z14.1,(-1:Int),(0:Int)) = some r19 := hr19
      refine OL (AI f70_in (cV (cQ C70 _ r19 [(0,some 0),(1,some 2)] false C70_holds hr19 rfl rfl (R4 (AI NH (R2 (AJ (AI (R2 TV) ?_))))))))
      cases sE q
      refine E4 [(0,some 0),(2,some 5)] (R3 (AI TV (R2 TV)))
     cases sE q
     refine E4 [(0,some 0),(2,some 2)] (R3 (AI TV (R2 TV)))
    refine AI (OL (OL (cI q (fun q=>?_) (fun q=>?_)))) TV
    ·cases sE q
     refine OL (AI rfl (E4 [(0,some 0),(2,some 2)] (R3 (AI TV (R2 TV)))))
    cases sE q
    refine OL (AI rfl (E4 [(0,some 0),(2,some 2)] (R3 (AI TV (R2 TV)))))
   refine OL ?_
   obtain ⟨r20,hr20,q⟩ := bE q
   refine OL (AI f71_in (cV (cQ C71 ((((((rd (Ty.z T0) t_L out).2).2).2).2).1,(0:Int)) r20 [] false C71_holds hr20 rfl rfl (R2 (K0 ?_)))))
   obtain ⟨r21,hr21,q⟩ := bE q
   refine OL (AI f71_in (cV (cQ C71 ((((((rd (Ty.z T0) t_L out).2).2).2).2).1,(4294967296:Int)) r21 [] false C71_holds hr21 rfl rfl (R2 (K0 (OL (OL (OL (gI q (fun q=>?_))))))))))
   refine OL (OL (gI q (fun q=>?_)))
   refine OL (OL ?_)
   obtain ⟨r22,hr22,q⟩ := bE q
   have hr22 : C19.F (t_L,(r20.1,(List.set r20.2 (Int.toNat class_) (-4294967296:Int)))) = some r22 := hr22
   refine OL (AI f19_in (cV (cQ C19 _ r22 I2 false C19_holds hr22 rfl rfl (R2 (AI NH (R2 (AJ (AI (R2 TV) (OL ?_)))))))))
   obtain ⟨z24,hz24,q⟩ := bE q
   refine OQ ⟨[(0,⟨[(0,P0 0 0),(2,.dat T2 out),(17,.dat T2 r22.1),(18,.dat T2 z24.1),(19,.dat T2 z24.2.1),(20,D0 0)],[(0,.cells [(.osl 2)]),(2,.arr 45 T0 z24.2.2)],3⟩)],?_,?_⟩
   ·have q := hz24
    clear hz24
    unfold f23_j11 at q
    refine OL (cI q (fun q=>?_) (fun q=>?_))
    ·obtain ⟨r25,hr25,q⟩ := bE q
     refine OL (AI f19_in (cV (cQ C19 (r22.2.2,(r21.1,(List.set r21.2 (Int.toNat class_) (0:Int)))) r25 [(0,some 0),(1,some 10)] false C19_holds hr25 rfl rfl (R2 (AI NH (R2 (AJ (AI (R2 TV) ?_))))))))
     cases sE q
     refine E4 [(0,some 0),(2,some 13)] (R6 (AJ (R2 TV)))
    cases sE q
    refine E4 [(0,some 0),(2,some 10)] (R6 (AJ (R2 TV)))
   refine AI ?_ TV
   obtain ⟨z27,hz27,q⟩ := bE q
   refine OQ ⟨[(0,⟨[(0,P0 0 0),(2,.dat T2 out),(18,.dat T2 z27.1),(19,.dat T2 z24.2.1),(20,.dat T2 z27.2.1)],[(0,.cells [(.osl 2)]),(2,.arr 45 T0 z27.2.2)],3⟩)],?_,?_⟩
   ·have q := hz27
    clear hz27
    unfold f23_j12 at q
    refine OL (cI q (fun q=>?_) (fun q=>?_))
    ·obtain ⟨r28,hr28,q⟩ := bE q
     refine OL (AI f70_in (cV (cQ C70 (z24.2.2,(4:Int),out,r22.1,(0:Int)) r28 [(0,some 0),(1,some 2)] false C70_holds hr28 rfl rfl (R4 (AI NH (R2 (AJ (AI (R2 TV) ?_))))))))
     cases sE q
     refine E4 [(0,some 0),(2,some 5)] (R5 (AJ (R2 TV)))
    cases sE q
    refine E4 [(0,some 0),(2,some 2)] (R5 (AJ (R2 TV)))
   refine AI ?_ TV
   obtain ⟨z30,hz30,q⟩ := bE q
   refine OQ ⟨[(0,⟨[(0,P0 0 0),(2,.dat T2 out),(18,.dat T2 z30.1),(19,.dat T2 z24.2.1),(20,.dat T2 z30.2.1)],[(0,.cells [(.osl 2)]),(2,.arr 45 T0 z30.2.2)],3⟩)],?_,?_⟩
   ·have q := hz30
    clear hz30
    unfold f23_j13 at q
    refine OL (cI q (fun q=>?_) (fun q=>?_))
    ·obtain ⟨r31,hr31,q⟩ := bE q
     have hr31 : C70.F (z27.2.2,(9:Int),z27.2.1,(-1:Int),(0:Int)) = some r31 := hr31
     refine OL (AI f70_in (cV (cQ C70 _ r31 [(0,some 0),(1,some 2)] false C70_holds hr31 rfl rfl (R4 (AI NH (R2 (AJ (AI (R2 TV) ?_))))))))
     cases sE q
     refine E4 [(0,some 0),(2,some 5)] (R5 (AJ (R2 TV)))
    cases sE q
    refine E4 [(0,some 0),(2,some 2)] (R5 (AJ (R2 TV)))
   refine AI ?_ TV
   obtain ⟨z33,hz33,q⟩ := bE q
   refine OQ ⟨[(0,⟨[(0,P0 0 0),(18,.dat T2 z33.1),(19,.dat T2 z24.2.1),(20,.dat T2 z33.2.1)],[(0,.cells [(.osl 2)]),(2,.arr 45 T0 z33.2.2)],3⟩)],?_,?_⟩
   ·have q := hz33
    clear hz33
    unfold f23_j14 at q
    refine OL (cI q (fun q=>?_) (fun q=>?_))
    ·obtain ⟨r34,hr34,q⟩ := bE q
     refine OL (AI f70_in (cV (cQ C70 (z30.2.2,(2:Int),out,z30.2.1,(0:Int)) r34 [(0,some 0),(1,some 2)] false C70_holds hr34 rfl rfl (R4 (AI NH (R2 (AJ (AI (R2 TV) ?_))))))))
     cases sE q
     refine E4 [(0,some 0),(2,some 5)] (R4 (AJ (R2 TV)))
    cases sE q
    refine E4 [(0,some 0),(2,some 2)] (R4 (AJ (R2 TV)))
   refine AI ?_ TV
   obtain ⟨z36,hz36,q⟩ := bE q
   refine OQ ⟨[(0,⟨[(0,P0 0 0),(18,.dat T2 z36.1),(19,.dat T2 z24.2.1),(20,.dat T2 z36.2.1)],[(0,.cells [(.osl 2)]),(2,.arr 45 T0 z36.2.2)],3⟩)],?_,?_⟩
   ·have q := hz36
    clear hz36
    unfold f23_j15 at q
    refine OL (cI q (fun q=>?_) (fun q=>?_))
    ·obtain ⟨r37,hr37,q⟩ := bE q
     refine OL (AI f70_in (cV (cQ C70 (z33.2.2,(2:Int),z33.2.1,z24.2.1,(0:Int)) r37 [(0,some 0),(1,some 2)] false C70_holds hr37 rfl rfl (R4 (AI NH (R2 (AJ (AI (R2 TV) ?_))))))))
     cases sE q
     refine E4 [(0,some 0),(2,some 5)] (R4 (AJ (R2 TV)))
    cases sE q
    refine E4 [(0,some 0),(2,some 2)] (R4 (AJ (R2 TV)))
   refine AI ?_ TV
   obtain ⟨z39,hz39,q⟩ := bE q
   refine OQ ⟨[(0,⟨[(0,P0 0 0),(18,.dat T2 z39.1),(19,.dat T2 z24.2.1),(20,.dat T2 z39.2.1)],[(0,.cells [(.osl 2)]),(2,.arr 45 T0 z39.2.2)],3⟩)],?_,?_⟩
   ·have q := hz39
    clear hz39
    unfold f23_j16 at q
    refine OL (cI q (fun q=>?_) (fun q=>?_))
    ·obtain ⟨r40,hr40,q⟩ := bE q
     have hr40 : C70.F (z36.2.2,(11:Int),z36.2.1,(-1:Int),(1:Int)) = some r40 := hr40
     refine OL (AI f70_in (cV (cQ C70 _ r40 [(0,some 0),(1,some 2)] false C70_holds hr40 rfl rfl (R4 (AI NH (R2 (AJ (AI (R2 TV) ?_))))))))
     cases sE q
     refine E4 [(0,some 0),(2,some 5)] (R4 (AJ (R2 TV)))
    cases sE q
    refine E4 [(0,some 0),(2,some 2)] (R4 (AJ (R2 TV)))
   refine AI ?_ TV
   obtain ⟨z42,hz42,q⟩ := bE q
   refine OQ ⟨[(0,⟨[(0,P0 0 0),(18,.dat T2 z42.1),(20,.dat T2 z42.2.1)],[(0,.cells [(.osl 2)]),(2,.arr 45 T0 z42.2.2)],3⟩)],?_,?_⟩
   ·have q := hz42
    clear hz42
    unfold f23_j17 at q
    refine OL (cI q (fun q=>?_) (fun q=>?_))
    ·obtain ⟨r43,hr43,q⟩ := bE q
     refine OL (AI f70_in (cV (cQ C70 (z39.2.2,(4:Int),z39.2.1,z24.2.1,(0:Int)) r43 [(0,some 0),(1,some 2)] false C70_holds hr43 rfl rfl (R4 (AI NH (R2 (AJ (AI (R2 TV) ?_))))))))
     cases sE q
     refine E4 [(0,some 0),(2,some 5)] (R3 (AJ (R2 TV)))
    cases sE q
    refine E4 [(0,some 0),(2,some 2)] (R3 (AJ (R2 TV)))
   refine AI ?_ TV
   obtain ⟨z45,hz45,q⟩ := bE q
   refine OQ ⟨[(0,⟨[(18,.dat T2 z45.1),(20,.dat T2 z45.2.1)],[(0,.cells [(.osl 2)]),(2,.arr 45 T0 z45.2.2)],3⟩)],?_,?_⟩
   ·have q := hz45
    clear hz45
    unfold f23_j18 at q
    refine OL (cI q (fun q=>?_) (fun q=>?_))
    ·obtain ⟨r46,hr46,q⟩ := bE q
     have hr46 : C70.F (z42.2.2,(9:Int),z42.2.1,(-1:Int),(0:Int)) = some r46 := hr46
     refine OL (AI f70_in (cV (cQ C70 _ r46 [(0,some 0),(1,some 2)] false C70_holds hr46 rfl rfl (R4 (AI NH (R2 (AJ (AI (R2 TV) ?_))))))))
     cases sE q
     refine E4 [(0,some 0),(2,some 5)] (R3 (AI TV (R2 TV)))
    cases sE q
    refine E4 [(0,some 0),(2,some 2)] (R3 (AI TV (R2 TV)))
   refine AI (OL (OL (cI q (fun q=>?_) (fun q=>?_)))) TV
   ·cases sE q
    refine OL (AI rfl (E4 [(0,some 0),(2,some 2)] (R3 (AI TV (R2 TV)))))
   cases sE q
   refine OL (AI rfl (E4 [(0,some 0),(2,some 2)] (R3 (AI TV (R2 TV)))))
  dsimp only [sumF] at q
  refine AI ?_ TV
  cases sE q
  refine AI rfl (E4 [(0,some 0),(2,some 1)] (R3 (AI TV (R2 TV))))
 dsimp only [sumF] at q
 refine AI ?_ TV
 cases sE q
 refine AI rfl (E4 [(0,some 0),(2,some 1)] (R3 (AI TV (R2 TV))))
theorem C23_holds : HP C23 23 := hH Tryz.f23 (by kernel_rfl) rfl (fun x y q=>C23_vc x.1 x.2.1 x.2.2.1 x.2.2.2.1 x.2.2.2.2 y q)
theorem f23_in : InP 23 := inP (by kernel_rfl)
def f162_l1 (s1 : LI) (s2 : LI) (go : Int → Option (Sum Unit Unit)) (v13:Int) : Option (Sum Unit Unit) :=
 bif (decide (v13 < (List.length s1:Int))) then
 guardF (0 ≤ v13 ∧ v13 < (List.length s1:Int)) <|
 guardF (0 ≤ v13 ∧ v13 < (List.length s2:Int)) <|
 bif ((rd (0:Int) s1 v13) != (rd (0:Int) s2 v13)) then
 some (Sum.inl ())
 else
 go (i64.wrap (v13 + (1:Int)))
 else
 some (Sum.inr ())
def f162 (s1 : LI) (s2 : LI) : Option Bool :=
 bif ((List.length s1:Int) != (List.length s2:Int)) then
 some false
 else
 bindF (loopF (fun go x=>f162_l1 s1 s2 go x) fuelN (0:Int)) fun z1 =>
 sumF z1 (fun z1a =>
 some false) (fun z1b =>
 some true)
def C162 : Con where
 X := LI×LI
 Y := Bool
 e := 0
 args x := [.dat T1 x.1,.dat T1 x.2]
 hin x := []
 F x := f162 x.1 x.2
 ret y := [.dat .bool y]
 hout y := []
 nout := 0
theorem C162_vc (s1 : LI) (s2 : LI) (y : Bool) (q : f162 s1 s2 = some y) : VC Tryz.f162 C162 (s1,s2) y := by
 unfold f162 at q
 refine OL (OL (OL (cI q (fun q=>?_) (fun q=>?_))))
 ·cases sE q
  refine OL (AI rfl (E4 [] (R2 (AI TV TV))))
 refine OL (OL ?_)
 obtain ⟨z1,hz1,q⟩ := bE q
 refine lI Int (Sum Unit Unit) (fun x=>⟨[(0,.dat T1 s1),(1,.dat T1 s2),(12,.dat T2 (List.length s1:Int)),(13,.dat T2 x)],[],0⟩) (fun z=>Sum.elim (fun za=>[(1,⟨[(4,.dat .bool false)],[],0⟩)]) (fun zb=>[(2,⟨[],[],0⟩)]) z) (loopF (fun go x=>f162_l1 s1 s2 go x)) fuelN (0:Int) z1 (AI hz1 (AI (E4 [] (R5 (AI TV TV))) (AI (fun _ _ h=>lZ h) (AI (fun m=>fun v13 z q=>?_) ?_))))
 ·have q : f162_l1 s1 s2 (loopF (fun go x=>f162_l1 s1 s2 go x) m) v13 = some z := q
  unfold f162_l1 at q
  refine OL (OL (cI q (fun q=>?_) (fun q=>?_)))
  ·refine OL (OL (OL (EI (.take 0 (.take 1 (.take 2 (.take 3 (.take 4 (.take 5 (.take 6 (.take 7 (.take 8 .done))))))))) (EI [] (EI [] (AI rfl (gI q (fun q=>?_))))))))
   refine gI q (fun q=>?_)
   refine cI q (fun q=>?_) (fun q=>?_)
   ·cases sE q
    refine OL (E4 [] (R2 (AI TV TV)))
   refine EI (i64.wrap (v13 + (1:Int))) (AI q (E4 [] (R5 (AI TV TV))))
  cases sE q
  refine E4 [] (AI rfl (AI TV TV))
 rcases z1 with z1a | z1b
 ·dsimp only [sumF] at q
  refine AI ?_ TV
  cases sE q
  refine AI rfl (E4 [] (R2 (AI TV TV)))
 dsimp only [sumF] at q
 refine AI (OL ?_) TV
 cases sE q
 refine AI rfl (E4 [] (R2 (AI TV TV)))
theorem C162_holds : HP C162 162 := hH Tryz.f162 (by kernel_rfl) rfl (fun x y q=>C162_vc x.1 x.2 y q)
theorem f162_in : InP 162 := inP (by kernel_rfl)
def f110 (a : LI) (b : LI) : Option Bool :=
 bindF (f162 a b) fun r1 =>
 some r1
def C110 : Con where
 X := LI×LI
 Y := Bool
 e := 0
 args x := [.dat T1 x.1,.dat T1 x.2]
 hin x := []
 F x := f110 x.1 x.2
 ret y := [.dat .bool y]
 hout y := []
 nout := 0
theorem C110_vc (a : LI) (b : LI) (y : Bool) (q : f110 a b = some y) : VC Tryz.f110 C110 (a,b) y := by
 unfold f110 at q
 refine OL (OL ?_)
 obtain ⟨r1,hr1,q⟩ := bE q
 refine OL (AI f162_in (cV (cQ C162 (a,b) r1 [] false C162_holds hr1 rfl rfl (R2 (K0 ?_)))))
 cases sE q
 refine AI rfl (E4 [] (R2 (AI TV TV)))
theorem C110_holds : HP C110 110 := hH Tryz.f110 (by kernel_rfl) rfl (fun x y q=>C110_vc x.1 x.2 y q)
theorem f110_in : InP 110 := inP (by kernel_rfl)
def f163_j3 (a : LI×LI) (d : LI) : Option Bool :=
 bindF (f59 (a.1,a.2)) fun r9 =>
 bif (!r9) then
 some true
 else
 bindF (f99 d) fun r10 =>
 some (!r10)
def f163_j2 (a : LI×LI) (d : LI) : Option (Sum Unit Unit) :=
 bindF (f163_j3 a d) fun z8 =>
 bif z8 then
 some (Sum.inr ())
 else
 some (Sum.inl ())
def f163_j6 (a : LI×LI) (r11 : Int×LI) : Option Bool :=
 bif (r11.1 != (0:Int)) then
 some true
 else
 bindF (f110 r11.2 a.1) fun r18 =>
 some (!r18)
def f163_j5 (a : LI×LI) (r11 : Int×LI) : Option (Sum Unit Unit) :=
 bindF (f163_j6 a r11) fun z17 =>
 bif z17 then
 some (Sum.inr ())
 else
 some (Sum.inl ())
def f163_l7 (a : LI×LI) (r20 : LI) (go : (Int×LI) → Option LI) (v51:Int) (l4 : LI) : Option LI :=
 bif (decide (v51 < (List.length a.2:Int))) then
 guardF (0 ≤ v51 ∧ v51 < (List.length a.2:Int)) <|
 guardF (0 ≤ v51 ∧ v51 < (List.length r20:Int)) <|
 guardF (0 ≤ v51 ∧ v51 < (List.length r20:Int)) <|
 guardF (0 ≤ (rd (0:Int) r20 v51) ∧ (rd (0:Int) r20 v51) < (List.length l4:Int)) <|
 bindF (f143 (rd (0:Int) l4 (rd (0:Int) r20 v51)) (rd (0:Int) a.2 v51)) fun q11_15 =>
 guardF (0 ≤ (rd (0:Int) r20 v51) ∧ (rd (0:Int) r20 v51) < (List.length l4:Int)) <|
 go ((i64.wrap (v51 + (1:Int))),(List.set l4 (Int.toNat (rd (0:Int) r20 v51)) q11_15))
 else
 some l4
def f163 (a : LI×LI) (d : LI) : Option (Int×LI×LI) :=
 bindF (f163_j2 a d) fun z5 =>
 sumF z5 (fun z5a =>
 bindF (f209 d a.1) fun r11 =>
 bindF (f163_j5 a r11) fun z15 =>
 sumF z15 (fun z15a =>
 bindF (f68 d (0:Int)) fun r19 =>
 bindF (f210 d a.1) fun r20 =>
 bindF (loopF (fun go x=>f163_l7 a r20 go x.1 x.2) fuelN ((0:Int),r19.2.2)) fun z21 =>
 some ((0:Int),r19.2.1,z21)) (fun z15b =>
 some ((4:Int),[],[]))) (fun z5b =>
 some ((1:Int),[],[]))
def C163 : Con where
 X := (LI×LI)×LI
 Y := Int×LI×LI
 e := 0
 args x := [.dat T3 x.1,.dat T1 x.2]
 hin x := []
 F x := f163 x.1 x.2
 ret y := [.raw true [(.osl 0),(.osl 1)],.dat T2 y.1]
 hout y := [(0,.arr 3 T2 y.2.1),(1,.arr 40 T2 y.2.2)]
 nout := 2
theorem C163_vc (a : LI×LI) (d : LI) (y : Int×LI×LI) (q : f163 a d = some y) : VC Tryz.f163 C163 (a,d) y := by
 unfold f163 at q
 refine OL ?_
 obtain ⟨z5,hz5,q⟩ := bE q
 refine OQ ⟨Sum.elim (fun z5a=>[(0,⟨[(1,.dat T1 d),(2,P0 0 0),(4,P0 1 0)],[(0,.cells [(.d T1 a.1),(.d T1 a.2)]),(1,.cells [N0,N0])],2⟩)]) (fun z5b=>[(1,⟨[(4,P0 0 0),(5,D0 1)],[(0,.cells [N0,N0])],1⟩)]) z5,?_,?_⟩
 ·have q := hz5
  clear hz5
  unfold f163_j2 at q
  obtain ⟨z8,hz8,q⟩ := bE q
  refine OQ ⟨[(0,⟨[(1,.dat T1 d),(2,P0 0 0),(4,P0 1 0),(20,.dat .bool z8)],[(0,.cells [(.d T1 a.1),(.d T1 a.2)]),(1,.cells [N0,N0])],2⟩)],?_,?_⟩
  ·have q := hz8
   clear hz8
   unfold f163_j3 at q
   obtain ⟨r9,hr9,q⟩ := bE q
   refine OL (AI f59_in (cV (cQ C59 (a.1,a.2) r9 [] false C59_holds hr9 rfl rfl (R2 (K0 (cN q (fun q=>?_) (fun q=>?_)))))))
   ·refine gY ?_
    obtain ⟨r10,hr10,q⟩ := bE q
    refine OL (AI f99_in (cV (cQ C99 d r10 [] false C99_holds hr10 rfl rfl (AI rfl (K0 (gY (cF ?_)))))))
    cases sE q
    refine E4 I2 (R3 (AI (R2 TV) (R2 TV)))
   refine gN (gN (cT ?_))
   cases sE q
   refine E4 I2 (R3 (AI (R2 TV) (R2 TV)))
  refine AI (cI q (fun q=>?_) (fun q=>?_)) TV
  ·refine OL (OL ?_)
   cases sE q
   refine E4 [(0,some 1)] (R2 (AJ (AI rfl TV)))
  cases sE q
  refine E4 I2 (R2 (AI (R2 TV) (R2 TV)))
 rcases z5 with z5a | z5b
 ·dsimp only [sumF] at q
  refine AI (OL ?_) TV
  obtain ⟨r11,hr11,q⟩ := bE q
  refine OL (AI f209_in (cV (cQ C209 (d,a.1) r11 [] false C209_holds hr11 rfl rfl (R2 (K0 ?_)))))
  obtain ⟨z15,hz15,q⟩ := bE q
  refine OQ ⟨Sum.elim (fun z15a=>[(0,⟨[(1,.dat T1 d),(2,P0 0 0),(4,P0 1 0)],[(0,.cells [(.d T1 a.1),(.d T1 a.2)]),(1,.cells [N0,N0])],2⟩)]) (fun z15b=>[(1,⟨[(4,P0 0 0),(5,D0 4)],[(0,.cells [N0,N0])],1⟩)]) z15,?_,?_⟩
  ·have q := hz15
   clear hz15
   unfold f163_j5 at q
   obtain ⟨z17,hz17,q⟩ := bE q
   refine OQ ⟨[(0,⟨[(1,.dat T1 d),(2,P0 0 0),(4,P0 1 0),(37,.dat .bool z17)],[(0,.cells [(.d T1 a.1),(.d T1 a.2)]),(1,.cells [N0,N0])],2⟩)],?_,?_⟩
   ·have q := hz17
    clear hz17
    unfold f163_j6 at q
    refine cN q (fun q=>?_) (fun q=>?_)
    ·refine gY (gY (gY ?_))
     obtain ⟨r18,hr18,q⟩ := bE q
     refine OL (AI f110_in (cV (cQ C110 (r11.2,a.1) r18 [] true C110_holds hr18 rfl rfl (R2 (AI (fun _=>rfl) (R2 (AI TV (AI TV (gY (cF ?_))))))))))
     cases sE q
     refine E4 I2 (R3 (AI (R2 TV) (R2 TV)))
    refine gN (gN (gN (gN (cT ?_))))
    cases sE q
    refine E4 I2 (R3 (AI (R2 TV) (R2 TV)))
   refine AI (cI q (fun q=>?_) (fun q=>?_)) TV
   ·refine OL (OL ?_)
    cases sE q
    refine E4 [(0,some 1)] (R2 (AJ (AI rfl TV)))
   cases sE q
   refine E4 I2 (R2 (AI (R2 TV) (R2 TV)))
  rcases z15 with z15a | z15b
  ·dsimp only [sumF] at q
   refine AI (OL ?_) TV
   obtain ⟨r19,hr19,q⟩ := bE q
   refine OL (AI f68_in (cV (cQ C68 (d,(0:Int)) r19 [] false C68_holds hr19 rfl rfl (R2 (K0 (OL (OL ?_)))))))
   obtain ⟨r20,hr20,q⟩ := bE q
   refine OL (AI f210_in (cV (cQ C210 (d,a.1) r20 [] false C210_holds hr20 rfl rfl (R2 (K0 (OL (OL ?_)))))))
   obtain ⟨z21,hz21,q⟩ := bE q
   refine lI (Int×LI) LI (fun x=>⟨[(4,P0 0 0),(8,P0 1 0),(10,O0 2),(49,.dat T1 a.2),(50,.dat T2 (List.length a.2:Int)),(51,.dat T2 x.1)],[(0,.cells [N0,N0]),(1,.cells [(.osl 3),(.osl 4)]),(2,.arr 3 T2 r20),(3,.arr 3 T2 r19.2.1),(4,.arr 40 T2 x.2)],5⟩) (fun z=>[(2,⟨[(4,P0 0 0),(8,P0 1 0)],[(0,.cells [N0,N0]),(1,.cells [(.osl 2),(.osl 3)]),(2,.arr 3 T2 r19.2.1),(3,.arr 40 T2 z)],4⟩)]) (loopF (fun go x=>f163_l7 a r20 go x.1 x.2)) fuelN ((0:Int),r19.2.2) z21 (AI hz21 (AI (E4 [(0,some 1),(1,some 4),(2,some 5),(3,some 2),(4,some 3)] (R4 (AI (R3 TV) (R5 TV)))) (AI (fun _ _ h=>lZ h) (AI (fun m=>curI (fun v51=>fun l4 z q=>?_)) ?_))))
   ·have q : f163_l7 a r20 (loopF (fun go x=>f163_l7 a r20 go x.1 x.2) m) v51 l4 = some z := q
    unfold f163_l7 at q
    refine OL (OL (cI q (fun q=>?_) (fun q=>?_)))
    ·refine OL (OL (gI q (fun q=>?_)))
     refine EI (.take 0 (.take 1 (.take 2 (.take 3 (.take 4 (.take 5 (.take 6 (.take 7 (.take 8 (.take 9 (.take 10 (.take 11 (.take 12 (.take 13 (.take 14 (.alt 15 (.take 16 (.alt 17 .done .done)) .done)))))))))))))))) (EI [(17,[4])] (EI [] (AI rfl (gI q (fun q=>?_)))))
     refine gI q (fun q=>?_)
     refine gI q (fun q=>?_)
     refine AI TV ?_
     obtain ⟨q11_15,hq11_15,q⟩ := bE q
     refine OL (AI f143_in (cV (cQ C143 ((rd (0:Int) l4 (rd (0:Int) r20 v51)),(rd (0:Int) a.2 v51)) q11_15 [] false C143_holds hq11_15 rfl rfl (R2 (K0 (gI q (fun q=>?_)))))))
     refine AI TV (OL (EI ((i64.wrap (v51 + (1:Int))),(List.set l4 (Int.toNat (rd (0:Int) r20 v51)) q11_15)) (AI q (E4 I5 (R4 (AI (R3 TV) (R5 TV)))))))
    cases sE q
    refine E4 [(0,some 0),(1,some 1),(2,some 3),(3,some 4)] (AI rfl (AI (R2 TV) (R4 TV)))
   refine AI (OL (OL ?_)) TV
   cases sE q
   refine AI rfl (E4 [(0,some 2),(1,some 3)] (R2 (AJ (R2 TV))))
  dsimp only [sumF] at q
  refine AI ?_ TV
  cases sE q
  refine AI rfl (E4 [(0,none),(1,none)] (R2 (AJ (R2 TV))))
 dsimp only [sumF] at q
 refine AI ?_ TV
 cases sE q
 refine AI rfl (E4 [(0,none),(1,none)] (R2 (AJ (R2 TV))))
theorem C163_holds : HP C163 163 := hH Tryz.f163 (by kernel_rfl) rfl (fun x y q=>C163_vc x.1 x.2 y q)
theorem f163_in : InP 163 := inP (by kernel_rfl)
def f165 (t : LI×LI) (e:Int) (d : LI) : Option (Int×LI×LI) :=
 bif (e != (0:Int)) then
 some (e,[],[])
 else
 bindF (f163 (t.1,t.2) d) fun r1 =>
 some (r1.1,r1.2.1,r1.2.2)
def C165 : Con where
 X := (LI×LI)×Int×LI
 Y := Int×LI×LI
 e := 0
 args x := [.dat T3 x.1,.dat T2 x.2.1,.dat T1 x.2.2]
 hin x := []
 F x := f165 x.1 x.2.1 x.2.2
 ret y := [.raw true [(.osl 0),(.osl 1)],.dat T2 y.1]
 hout y := [(0,.arr 3 T2 y.2.1),(1,.arr 40 T2 y.2.2)]
 nout := 2
theorem C165_vc (t : LI×LI) (e:Int) (d : LI) (y : Int×LI×LI) (q : f165 t e d = some y) : VC Tryz.f165 C165 (t,e,d) y := by
 unfold f165 at q
 refine OL (OL (OL (cI q (fun q=>?_) (fun q=>?_))))
 ·refine OL (OL ?_)
  cases sE q
  refine AI rfl (E4 [(0,none),(1,none)] (R2 (AJ (R2 TV))))
 refine OL ?_
 obtain ⟨r1,hr1,q⟩ := bE q
 refine OL (AI f163_in (cV (cQ C163 ((t.1,t.2),d) r1 [] false C163_holds hr1 rfl rfl (R3 (K0 (OL ?_))))))
 cases sE q
 refine AI rfl (E4 [(0,some 2),(1,some 3)] (R2 (AJ (R2 TV))))
theorem C165_holds : HP C165 165 := hH Tryz.f165 (by kernel_rfl) rfl (fun x y q=>C165_vc x.1 x.2.1 x.2.2 y q)
theorem f165_in : InP 165 := inP (by kernel_rfl)
def f167 (a : LI×LI) (b : LI×LI) (first : Bool) : Option (Int×LI×LI) :=
 bif first then
 bindF (f168 (a.1,a.2)) fun r1 =>
 bif (r1.1 != (0:Int)) then
 some (r1.1,[],[])
 else
 bindF (f199 (r1.2.1,r1.2.2) (b.1,b.2)) fun r2 =>
 some (r2.1,r2.2.1,r2.2.2)
 else
 bindF (f168 (b.1,b.2)) fun r3 =>
 bif (r3.1 != (0:Int)) then
 some (r3.1,[],[])
 else
 bindF (f199 (a.1,a.2) (r3.2.1,r3.2.2)) fun r4 =>
 some (r4.1,r4.2.1,r4.2.2)
def C167 : Con where
 X := (LI×LI)×(LI×LI)×Bool
 Y := Int×LI×LI
 e := 0
 args x := [.dat T3 x.1,.dat T3 x.2.1,.dat .bool x.2.2]
 hin x := []
 F x := f167 x.1 x.2.1 x.2.2
 ret y := [.raw true [(.osl 0),(.osl 1)],.dat T2 y.1]
 hout y := [(0,.arr 3 T2 y.2.1),(1,.arr 40 T2 y.2.2)]
 nout := 2
theorem C167_vc (a : LI×LI) (b : LI×LI) (first : Bool) (y : Int×LI×LI) (q : f167 a b first = some y) : VC Tryz.f167 C167 (a,b,first) y := by
 unfold f167 at q
 refine OL (OL (OL (cI q (fun q=>?_) (fun q=>?_))))
 ·refine OL ?_
  obtain ⟨r1,hr1,q⟩ := bE q
  refine OL (AI f168_in (cV (cQ C168 (a.1,a.2) r1 [] false C168_holds hr1 rfl rfl (R2 (K0 (OL (OL (OL (cI q (fun q=>?_) (fun q=>?_))))))))))
  ·refine OL (OL ?_)
   cases sE q
   refine AI rfl (E4 [(0,none),(1,none)] (R2 (AJ (R2 TV))))
  refine OL ?_
  obtain ⟨r2,hr2,q⟩ := bE q
  refine OL (AI f199_in (cV (cQ C199 ((r1.2.1,r1.2.2),(b.1,b.2)) r2 [] true C199_holds hr2 rfl rfl (R4 (AI (fun _=>rfl) (R2 (AI TV (AI TV (OL ?_)))))))))
  cases sE q
  refine AI rfl (E4 [(0,some 6),(1,some 7)] (R2 (AJ (R2 TV))))
 refine OL ?_
 obtain ⟨r3,hr3,q⟩ := bE q
 refine OL (AI f168_in (cV (cQ C168 (b.1,b.2) r3 [] false C168_holds hr3 rfl rfl (R2 (K0 (OL (OL (OL (cI q (fun q=>?_) (fun q=>?_))))))))))
 ·refine OL (OL ?_)
  cases sE q
  refine AI rfl (E4 [(0,none),(1,none)] (R2 (AJ (R2 TV))))
 refine OL ?_
 obtain ⟨r4,hr4,q⟩ := bE q
 refine OL (AI f199_in (cV (cQ C199 ((a.1,a.2),(r3.2.1,r3.2.2)) r4 [] true C199_holds hr4 rfl rfl (R4 (AI (fun _=>rfl) (R2 (AI TV (AI TV (OL ?_)))))))))
 cases sE q
 refine AI rfl (E4 [(0,some 6),(1,some 7)] (R2 (AJ (R2 TV))))
theorem C167_holds : HP C167 167 := hH Tryz.f167 (by kernel_rfl) rfl (fun x y q=>C167_vc x.1 x.2.1 x.2.2 y q)
theorem f167_in : InP 167 := inP (by kernel_rfl)
def f169_l1 (g : LI×LI) (d : LI) (side:Int) (q8_9 : Int×LI×LI) (go : (Int×LI) → Option LI) (v23:Int) (l4 : LI) : Option LI :=
 bif (decide (v23 < (List.length q8_9.2.2:Int))) then
 bindF (f213 d v23) fun q8_9 =>
 guardF (0 ≤ side ∧ side ≤ (List.length q8_9.2:Int)) <|
 guardF (0 ≤ (i64.wrap (side + (1:Int))) ∧ (i64.wrap (side + (1:Int))) ≤ (List.length q8_9.2:Int)) <|
 guardF ((List.length ([] : LI) + List.length (List.take (Int.toNat side) q8_9.2)) * 8 ≤ 140737488355328) <|
 guardF ((List.length (([] : LI) ++ (List.take (Int.toNat side) q8_9.2)) + List.length (List.drop (Int.toNat (i64.wrap (side + (1:Int)))) q8_9.2)) * 8 ≤ 140737488355328) <|
 bindF (f214 g.1 ((([] : LI) ++ (List.take (Int.toNat side) q8_9.2)) ++ (List.drop (Int.toNat (i64.wrap (side + (1:Int)))) q8_9.2))) fun q6_10 =>
 guardF (0 ≤ q6_10.1 ∧ q6_10.1 < (List.length g.2:Int)) <|
 guardF (0 ≤ v23 ∧ v23 < (List.length l4:Int)) <|
 go ((i64.wrap (v23 + (1:Int))),(List.set l4 (Int.toNat v23) (rd (0:Int) g.2 q6_10.1)))
 else
 some l4
def f169 (g : LI×LI) (d : LI) (side:Int) : Option (LI×LI) :=
 bindF (f68 d (0:Int)) fun q8_9 =>
 bindF (loopF (fun go x=>f169_l1 g d side q8_9 go x.1 x.2) fuelN ((0:Int),q8_9.2.2)) fun z2 =>
 some (q8_9.2.1,z2)
def C169 : Con where
 X := (LI×LI)×LI×Int
 Y := LI×LI
 e := 0
 args x := [.dat T3 x.1,.dat T1 x.2.1,.dat T2 x.2.2]
 hin x := []
 F x := f169 x.1 x.2.1 x.2.2
 ret y := [.raw true [(.osl 0),(.osl 1)]]
 hout y := [(0,.arr 3 T2 y.1),(1,.arr 40 T2 y.2)]
 nout := 2
theorem C169_vc (g : LI×LI) (d : LI) (side:Int) (y : LI×LI) (q : f169 g d side = some y) : VC Tryz.f169 C169 (g,d,side) y := by
 unfold f169 at q
 refine OL (OL ?_)
 obtain ⟨q8_9,hq8_9,q⟩ := bE q
 refine OL (AI f68_in (cV (cQ C68 (d,(0:Int)) q8_9 [] false C68_holds hq8_9 rfl rfl (R2 (K0 (OL (OL (OL ?_))))))))
 obtain ⟨z2,hz2,q⟩ := bE q
 refine lI (Int×LI) LI (fun x=>⟨[(1,.dat T1 d),(2,.dat T2 side),(3,P0 0 0),(6,P0 1 0),(7,P0 2 0),(22,.dat T2 (List.length q8_9.2.2:Int)),(23,.dat T2 x.1)],[(0,.cells [(.d T1 g.1),(.d T1 g.2)]),(1,.cells [N0,N0]),(2,.cells [(.osl 3),(.osl 4)]),(3,.arr 3 T2 q8_9.2.1),(4,.arr 40 T2 x.2)],5⟩) (fun z=>[(2,⟨[(6,P0 0 0),(7,P0 1 0)],[(0,.cells [N0,N0]),(1,.cells [(.osl 2),(.osl 3)]),(2,.arr 3 T2 q8_9.2.1),(3,.arr 40 T2 z)],4⟩)]) (loopF (fun go x=>f169_l1 g d side q8_9 go x.1 x.2)) fuelN ((0:Int),q8_9.2.2) z2 (AI hz2 (AI (E4 [(0,some 0),(1,some 1),(2,some 4),(3,some 2),(4,some 3)] (R5 (AI (R3 TV) (R5 TV)))) (AI (fun _ _ h=>lZ h) (AI (fun m=>curI (fun v23=>fun l4 z q=>?_)) ?_))))
 ·have q : f169_l1 g d side q8_9 (loopF (fun go x=>f169_l1 g d side q8_9 go x.1 x.2) m) v23 l4 = some z := q
  unfold f169_l1 at q
  refine OL (OL (cI q (fun q=>?_) (fun q=>?_)))
  ·refine OL (OL (OL ?_))
   obtain ⟨q8_9,hq8_9,q⟩ := bE q
   refine OL (AI f213_in (cV (cQ C213 (d,v23) q8_9 [] false C213_holds hq8_9 rfl rfl (R2 (K0 (OL (EI (.take 1 (.take 2 (.take 3 (.take 5 (.take 6 (.take 7 (.take 8 (.alt 0 (.alt 4 (.alt 9 (.take 10 .done) .done) .done) .done)))))))) (EI [] (EI [5] (AI rfl (gI q (fun q=>?_))))))))))))
   refine gI q (fun q=>?_)
   refine AI TV (OL (AI TV (OL (gI q (fun q=>?_)))))
   refine AI TV (OL (gI q (fun q=>?_)))
   refine OL ?_
   obtain ⟨q6_10,hq6_10,q⟩ := bE q
   refine OL (AI f214_in (cV (cQ C214 (g.1,((([] : LI) ++ (List.take (Int.toNat side) q8_9.2)) ++ (List.drop (Int.toNat (i64.wrap (side + (1:Int)))) q8_9.2))) q6_10 [] true C214_holds hq6_10 rfl rfl (R2 (AI (fun _=>rfl) (R2 (AI TV (AI TV (EI (.take 0 (.take 1 (.take 2 (.take 3 (.take 4 (.take 5 (.take 6 (.take 7 (.take 8 (.alt 9 .done .done)))))))))) (EI [] (EI [] (AI rfl (gI q (fun q=>?_))))))))))))))
   refine gI q (fun q=>?_)
   refine AI TV (OL (EI ((i64.wrap (v23 + (1:Int))),(List.set l4 (Int.toNat v23) (rd (0:Int) g.2 q6_10.1))) (AI q (E4 I5 (R5 (AI (R3 TV) (R5 TV)))))))
  cases sE q
  refine E4 [(0,some 1),(1,some 2),(2,some 3),(3,some 4)] (AI rfl (AI (R2 TV) (R4 TV)))
 refine AI (OL (OL ?_)) TV
 cases sE q
 refine AI rfl (E4 [(0,some 2),(1,some 3)] (AI rfl (AJ (R2 TV))))
theorem C169_holds : HP C169 169 := hH Tryz.f169 (by kernel_rfl) rfl (fun x y q=>C169_vc x.1 x.2.1 x.2.2 y q)
theorem f169_in : InP 169 := inP (by kernel_rfl)
def f245 (is : Bool) (yes:Int) (no:Int) : Option Int :=
 bif is then
 some yes
 else
 some no
def C245 : Con where
 X := Bool×Int×Int
 Y := Int
 e := 0
 args x := [.dat .bool x.1,.dat T2 x.2.1,.dat T2 x.2.2]
 hin x := []
 F x := f245 x.1 x.2.1 x.2.2
 ret y := [.dat T2 y]
 hout y := []
 nout := 0
theorem C245_vc (is : Bool) (yes:Int) (no:Int) (y:Int) (q : f245 is yes no = some y) : VC Tryz.f245 C245 (is,yes,no) y := by
 unfold f245 at q
 refine OL (OL (OL (cI q (fun q=>?_) (fun q=>?_))))
 ·cases sE q
  refine OL (AI rfl (E4 [] (R2 (AI TV TV))))
 cases sE q
 refine OL (AI rfl (E4 [] (R2 (AI TV TV))))
theorem C245_holds : HP C245 245 := hH Tryz.f245 (by kernel_rfl) rfl (fun x y q=>C245_vc x.1 x.2.1 x.2.2 y q)
theorem f245_in : InP 245 := inP (by kernel_rfl)
def f246 (a:Int) (b:Int) : Option Int :=
 bif (decide (a < b)) then
 some (-1:Int)
 else
 bif (decide (a > b)) then
 some (1:Int)
 else
 some (0:Int)
def C246 : Con where
 X := Int×Int
 Y := Int
 e := 0
 args x := [.dat T2 x.1,.dat T2 x.2]
 hin x := []
 F x := f246 x.1 x.2
 ret y := [.dat T2 y]
 hout y := []
 nout := 0
theorem C246_vc (a:Int) (b:Int) (y:Int) (q : f246 a b = some y) : VC Tryz.f246 C246 (a,b) y := by
 unfold f246 at q
 refine OL (OL (OL (cI q (fun q=>?_) (fun q=>?_))))
 ·cases sE q
  refine OL (AI rfl (E4 [] (R2 (AI TV TV))))
 refine OL (cI q (fun q=>?_) (fun q=>?_))
 ·cases sE q
  refine OL (AI rfl (E4 [] (R2 (AI TV TV))))
 cases sE q
 refine OL (AI rfl (E4 [] (R2 (AI TV TV))))
theorem C246_holds : HP C246 246 := hH Tryz.f246 (by kernel_rfl) rfl (fun x y q=>C246_vc x.1 x.2 y q)
theorem f246_in : InP 246 := inP (by kernel_rfl)
def f223_j1 (x_:Int) : Option Bool :=
 bif (decide (x_ > (-4294967296:Int))) then
 some (decide (x_ < (4294967296:Int)))
 else
 some false
def f223 (kind:Int) (x_:Int) : Option (Int×Int) :=
 bindF (f223_j1 x_) fun z1 =>
 bif (kind == (1:Int)) then
 bindF (f245 (decide (x_ > (0:Int))) (4294967296:Int) (0:Int)) fun r2 =>
 some (r2,(0:Int))
 else
 bif (kind == (2:Int)) then
 bindF (f245 (decide (x_ > (0:Int))) (4294967296:Int) (536870912:Int)) fun r3 =>
 some (r3,(0:Int))
 else
 bif (kind == (3:Int)) then
 bindF (f245 z1 (4294967296:Int) (0:Int)) fun r4 =>
 some (r4,(0:Int))
 else
 bif (kind == (4:Int)) then
 bindF (f246 x_ (0:Int)) fun r5 =>
 some ((i64.wrap (r5 * (4294967296:Int))),(0:Int))
 else
 bif (kind == (5:Int)) then
 bindF (f245 z1 (2147483648:Int) (0:Int)) fun r6 =>
 some (r6,(0:Int))
 else
 some ((0:Int),(1:Int))
def C223 : Con where
 X := Int×Int
 Y := Int×Int
 e := 0
 args x := [.dat T2 x.1,.dat T2 x.2]
 hin x := []
 F x := f223 x.1 x.2
 ret y := [.dat T2 y.1,.dat T2 y.2]
 hout y := []
 nout := 0
theorem C223_vc (kind:Int) (x_:Int) (y : Int×Int) (q : f223 kind x_ = some y) : VC Tryz.f223 C223 (kind,x_) y := by
 unfold f223 at q
 refine OL ?_
 obtain ⟨z1,hz1,q⟩ := bE q
 refine OQ ⟨[(0,⟨[(0,.dat T2 kind),(1,.dat T2 x_),(6,.dat .bool z1)],[],0⟩)],?_,?_⟩
 ·have q := hz1
  clear hz1
  unfold f223_j1 at q
  refine cI q (fun q=>?_) (fun q=>?_)
  ·refine gX (cT ?_)
   cases sE q
   refine E4 [] (R4 (AI TV TV))
  refine gM (cF ?_)
  cases sE q
  refine E4 [] (R4 (AI TV TV))
 refine AI (OL (OL (OL (cI q (fun q=>?_) (fun q=>?_))))) TV
 ·refine OL ?_
  obtain ⟨r2,hr2,q⟩ := bE q
  refine OL (AI f245_in (cV (cQ C245 ((decide (x_ > (0:Int))),(4294967296:Int),(0:Int)) r2 [] false C245_holds hr2 rfl rfl (R3 (K0 ?_)))))
  cases sE q
  refine AI rfl (E4 [] (R3 (AI TV TV)))
 refine OL (cI q (fun q=>?_) (fun q=>?_))
 ·refine OL ?_
  obtain ⟨r3,hr3,q⟩ := bE q
  refine OL (AI f245_in (cV (cQ C245 ((decide (x_ > (0:Int))),(4294967296:Int),(536870912:Int)) r3 [] false C245_holds hr3 rfl rfl (R3 (K0 ?_)))))
  cases sE q
  refine AI rfl (E4 [] (R3 (AI TV TV)))
 refine OL (cI q (fun q=>?_) (fun q=>?_))
 ·refine OL ?_
  obtain ⟨r4,hr4,q⟩ := bE q
  refine OL (AI f245_in (cV (cQ C245 (z1,(4294967296:Int),(0:Int)) r4 [] false C245_holds hr4 rfl rfl (R3 (K0 ?_)))))
  cases sE q
  refine AI rfl (E4 [] (R3 (AI TV TV)))
 refine OL (cI q (fun q=>?_) (fun q=>?_))
 ·refine OL ?_
  obtain ⟨r5,hr5,q⟩ := bE q
  refine OL (AI f246_in (cV (cQ C246 (x_,(0:Int)) r5 [] false C246_holds hr5 rfl rfl (R2 (K0 ?_)))))
  cases sE q
  refine AI rfl (E4 [] (R3 (AI TV TV)))
 refine OL (cI q (fun q=>?_) (fun q=>?_))
 ·refine OL ?_
  obtain ⟨r6,hr6,q⟩ := bE q
  refine OL (AI f245_in (cV (cQ C245 (z1,(2147483648:Int),(0:Int)) r6 [] false C245_holds hr6 rfl rfl (R3 (K0 ?_)))))
  cases sE q
  refine AI rfl (E4 [] (R3 (AI TV TV)))
 cases sE q
 refine OL (AI rfl (E4 [] (R3 (AI TV TV))))
theorem C223_holds : HP C223 223 := hH Tryz.f223 (by kernel_rfl) rfl (fun x y q=>C223_vc x.1 x.2 y q)
theorem f223_in : InP 223 := inP (by kernel_rfl)
def f171_j3 (kind:Int) (t : LI×LI) (g : LI×LI) : Option Bool :=
 bindF (f222 kind) fun r13 =>
 bif (!r13) then
 some true
 else
 bindF (f59 (t.1,t.2)) fun r14 =>
 bif (!r14) then
 some true
 else
 bindF (f59 (g.1,g.2)) fun r15 =>
 some (!r15)
def f171_j2 (kind:Int) (t : LI×LI) (g : LI×LI) : Option (Sum Unit Int) :=
 bindF (f171_j3 kind t g) fun z12 =>
 bif z12 then
 some (Sum.inr (1:Int))
 else
 bindF (f110 t.1 g.1) fun r16 =>
 bif (!r16) then
 some (Sum.inr (4:Int))
 else
 some (Sum.inl ())
def f171_l4 (kind:Int) (t : LI×LI) (g : LI×LI) (go : (Int×LI) → Option LI) (v41:Int) (l4 : LI) : Option LI :=
 bif (decide (v41 < (List.length t.2:Int))) then
 guardF (0 ≤ v41 ∧ v41 < (List.length t.2:Int)) <|
 bindF (f223 kind (rd (0:Int) t.2 v41)) fun q10_11 =>
 guardF (0 ≤ v41 ∧ v41 < (List.length g.2:Int)) <|
 bindF (f144 (rd (0:Int) g.2 v41) q10_11.1) fun q10_9 =>
 guardF (0 ≤ v41 ∧ v41 < (List.length l4:Int)) <|
 go ((i64.wrap (v41 + (1:Int))),(List.set l4 (Int.toNat v41) q10_9))
 else
 some l4
def f171 (kind:Int) (t : LI×LI) (g : LI×LI) : Option (Int×LI×LI) :=
 bindF (f171_j2 kind t g) fun z8 =>
 sumF z8 (fun z8a =>
 bindF (f61 (g.1,g.2)) fun r17 =>
 bindF (loopF (fun go x=>f171_l4 kind t g go x.1 x.2) fuelN ((0:Int),r17.2)) fun z19 =>
 some ((0:Int),r17.1,z19)) (fun z8b =>
 some (z8b,[],[]))
def C171 : Con where
 X := Int×(LI×LI)×(LI×LI)
 Y := Int×LI×LI
 e := 0
 args x := [.dat T2 x.1,.dat T3 x.2.1,.dat T3 x.2.2]
 hin x := []
 F x := f171 x.1 x.2.1 x.2.2
 ret y := [.raw true [(.osl 0),(.osl 1)],.dat T2 y.1]
 hout y := [(0,.arr 3 T2 y.2.1),(1,.arr 40 T2 y.2.2)]
 nout := 2
theorem C171_vc (kind:Int) (t : LI×LI) (g : LI×LI) (y : Int×LI×LI) (q : f171 kind t g = some y) : VC Tryz.f171 C171 (kind,t,g) y := by
 unfold f171 at q
 refine OL ?_
 obtain ⟨z8,hz8,q⟩ := bE q
 refine OQ ⟨Sum.elim (fun z8a=>[(0,⟨[(0,.dat T2 kind),(4,P0 0 0),(5,P0 1 0),(6,P0 2 0)],[(0,.cells [(.d T1 t.1),(.d T1 t.2)]),(1,.cells [(.d T1 g.1),(.d T1 g.2)]),(2,.cells [N0,N0])],3⟩)]) (fun z8b=>[(1,⟨[(6,P0 0 0),(7,.dat T2 z8b)],[(0,.cells [N0,N0])],1⟩)]) z8,?_,?_⟩
 ·have q := hz8
  clear hz8
  unfold f171_j2 at q
  obtain ⟨z12,hz12,q⟩ := bE q
  refine OQ ⟨[(0,⟨[(0,.dat T2 kind),(4,P0 0 0),(5,P0 1 0),(6,P0 2 0),(13,.dat .bool z12)],[(0,.cells [(.d T1 t.1),(.d T1 t.2)]),(1,.cells [(.d T1 g.1),(.d T1 g.2)]),(2,.cells [N0,N0])],3⟩)],?_,?_⟩
  ·have q := hz12
   clear hz12
   unfold f171_j3 at q
   obtain ⟨r13,hr13,q⟩ := bE q
   refine OL (AI f222_in (cV (cQ C222 kind r13 [] false C222_holds hr13 rfl rfl (AI rfl (K0 (cN q (fun q=>?_) (fun q=>?_)))))))
   ·refine gY ?_
    obtain ⟨r14,hr14,q⟩ := bE q
    refine OL (AI f59_in (cV (cQ C59 (t.1,t.2) r14 [] false C59_holds hr14 rfl rfl (R2 (K0 (gY (cF (cN q (fun q=>?_) (fun q=>?_)))))))))
    ·refine gY ?_
     obtain ⟨r15,hr15,q⟩ := bE q
     refine OL (AI f59_in (cV (cQ C59 (g.1,g.2) r15 [] false C59_holds hr15 rfl rfl (R2 (K0 (gY (cF ?_)))))))
     cases sE q
     refine E4 I3 (R3 (AI (R3 TV) (R3 TV)))
    refine gN (gN (cT ?_))
    cases sE q
    refine E4 I3 (R3 (AI (R3 TV) (R3 TV)))
   refine gN (gN (cT (gN (gN (gN (cT ?_))))))
   cases sE q
   refine E4 I3 (R3 (AI (R3 TV) (R3 TV)))
  refine AI (cI q (fun q=>?_) (fun q=>?_)) TV
  ·refine OL (OL ?_)
   cases sE q
   refine E4 [(0,some 2)] (R2 (AJ (AI rfl TV)))
  refine OL ?_
  obtain ⟨r16,hr16,q⟩ := bE q
  refine OL (AI f110_in (cV (cQ C110 (t.1,g.1) r16 [] false C110_holds hr16 rfl rfl (R2 (K0 (cI q (fun q=>?_) (fun q=>?_)))))))
  ·refine OL (OL ?_)
   cases sE q
   refine E4 [(0,some 2)] (R2 (AJ (AI rfl TV)))
  cases sE q
  refine E4 I3 (R2 (AI (R3 TV) (R3 TV)))
 rcases z8 with z8a | z8b
 ·dsimp only [sumF] at q
  refine AI (OL ?_) TV
  obtain ⟨r17,hr17,q⟩ := bE q
  refine OL (AI f61_in (cV (cQ C61 (g.1,g.2) r17 [] false C61_holds hr17 rfl rfl (R2 (K0 (OL (OL (OL ?_))))))))
  obtain ⟨z19,hz19,q⟩ := bE q
  refine lI (Int×LI) LI (fun x=>⟨[(0,.dat T2 kind),(5,P0 0 0),(6,P0 1 0),(8,P0 2 0),(39,.dat T1 t.2),(40,.dat T2 (List.length t.2:Int)),(41,.dat T2 x.1)],[(0,.cells [(.d T1 g.1),(.d T1 g.2)]),(1,.cells [N0,N0]),(2,.cells [(.osl 3),(.osl 4)]),(3,.arr 3 T2 r17.1),(4,.arr 40 T2 x.2)],5⟩) (fun z=>[(3,⟨[(6,P0 0 0),(8,P0 1 0)],[(0,.cells [N0,N0]),(1,.cells [(.osl 2),(.osl 3)]),(2,.arr 3 T2 r17.1),(3,.arr 40 T2 z)],4⟩)]) (loopF (fun go x=>f171_l4 kind t g go x.1 x.2)) fuelN ((0:Int),r17.2) z19 (AI hz19 (AI (E4 [(0,some 1),(1,some 2),(2,some 5),(3,some 3),(4,some 4)] (R5 (AI (R3 TV) (R5 TV)))) (AI (fun _ _ h=>lZ h) (AI (fun m=>curI (fun v41=>fun l4 z q=>?_)) ?_))))
  ·have q : f171_l4 kind t g (loopF (fun go x=>f171_l4 kind t g go x.1 x.2) m) v41 l4 = some z := q
   unfold f171_l4 at q
   refine OL (OL (cI q (fun q=>?_) (fun q=>?_)))
   ·refine OL (OL (gI q (fun q=>?_)))
    refine OL ?_
    obtain ⟨q10_11,hq10_11,q⟩ := bE q
    refine OL (AI f223_in (cV (cQ C223 (kind,(rd (0:Int) t.2 v41)) q10_11 [] false C223_holds hq10_11 rfl rfl (R2 (K0 (EI (.take 0 (.take 1 (.take 2 (.take 3 (.take 4 (.take 5 (.take 6 (.take 7 (.take 8 (.alt 9 (.take 10 (.alt 11 .done .done)) .done)))))))))) (EI [] (EI [] (AI rfl (gI q (fun q=>?_)))))))))))
    refine AI TV ?_
    obtain ⟨q10_9,hq10_9,q⟩ := bE q
    refine OL (AI f144_in (cV (cQ C144 ((rd (0:Int) g.2 v41),q10_11.1) q10_9 [] false C144_holds hq10_9 rfl rfl (R2 (K0 (gI q (fun q=>?_)))))))
    refine AI TV (OL (EI ((i64.wrap (v41 + (1:Int))),(List.set l4 (Int.toNat v41) q10_9)) (AI q (E4 I5 (R5 (AI (R3 TV) (R5 TV)))))))
   cases sE q
   refine E4 [(0,some 1),(1,some 2),(2,some 3),(3,some 4)] (AI rfl (AI (R2 TV) (R4 TV)))
  refine AI (OL (OL ?_)) TV
  cases sE q
  refine AI rfl (E4 [(0,some 2),(1,some 3)] (R2 (AJ (R2 TV))))
 dsimp only [sumF] at q
 refine AI ?_ TV
 cases sE q
 refine AI rfl (E4 [(0,none),(1,none)] (R2 (AJ (R2 TV))))
theorem C171_holds : HP C171 171 := hH Tryz.f171 (by kernel_rfl) rfl (fun x y q=>C171_vc x.1 x.2.1 x.2.2 y q)
theorem f171_in : InP 171 := inP (by kernel_rfl)
def f225 (n:Int) : Option Bool :=
 bif (decide (n ≥ (1:Int))) then
 some (decide (n ≤ (4096:Int)))
 else
 some false
def C225 : Con where
 X := Int
 Y := Bool
 e := 0
 args x := [.dat T2 x]
 hin x := []
 F x := f225 x
 ret y := [.dat .bool y]
 hout y := []
 nout := 0
theorem C225_vc (n:Int) (y : Bool) (q : f225 n = some y) : VC Tryz.f225 C225 n y := by
 unfold f225 at q
 refine OL (OL (cI q (fun q=>?_) (fun q=>?_)))
 ·refine gX (cT ?_)
  cases sE q
  refine AI rfl (E4 [] (R2 (AI TV TV)))
 refine gM (cF ?_)
 cases sE q
 refine AI rfl (E4 [] (R2 (AI TV TV)))
theorem C225_holds : HP C225 225 := hH Tryz.f225 (by kernel_rfl) rfl (fun x y q=>C225_vc x y q)
theorem f225_in : InP 225 := inP (by kernel_rfl)
def f172_j4 (g : LI×LI) (k : LI×LI) (step:Int) (long:Int) : Option Bool :=
 bindF (f59 (g.1,g.2)) fun r15 =>
 bif (!r15) then
 some true
 else
 bindF (f59 (k.1,k.2)) fun r16 =>
 bif (!r16) then
 some true
 else
 bindF (f224 step) fun r17 =>
 bif (!r17) then
 some true
 else
 bindF (f225 long) fun r18 =>
 some (!r18)
def f172_j5 (g : LI×LI) (k : LI×LI) (step:Int) (long:Int) : Option Bool :=
 bif ((List.length g.1:Int) != (2:Int)) then
 some true
 else
 bif ((List.length k.1:Int) != (3:Int)) then
 some true
 else
 guardF (0 ≤ (0:Int) ∧ (0:Int) < (List.length k.1:Int)) <|
 guardF (0 ≤ (0:Int) ∧ (0:Int) < (List.length g.1:Int)) <|
 bif ((rd (0:Int) k.1 (0:Int)) != (rd (0:Int) g.1 (0:Int))) then
 some true
 else
 guardF (0 ≤ (2:Int) ∧ (2:Int) < (List.length k.1:Int)) <|
 guardF (0 ≤ (1:Int) ∧ (1:Int) < (List.length g.1:Int)) <|
 bindF (f226 long (rd (0:Int) k.1 (2:Int)) step) fun q3_28 =>
 some (q3_28 != (rd (0:Int) g.1 (1:Int)))
def f172_j3 (g : LI×LI) (k : LI×LI) (step:Int) (long:Int) : Option (Sum Unit Int) :=
 bindF (f172_j4 g k step long) fun z14 =>
 bif z14 then
 some (Sum.inr (1:Int))
 else
 bindF (f172_j5 g k step long) fun z19 =>
 bif z19 then
 some (Sum.inr (4:Int))
 else
 some (Sum.inl ())
def f172_j45 (g : LI×LI) (step:Int) (long:Int) (v110:Int) (v127:Int) : Option Bool :=
 guardF (step ≠ 0) <|
 bif ((Int.tmod (i64.wrap ((Int.tmod v110 long) - v127)) step) == (0:Int)) then
 some (decide ((i64.wrap (Int.tdiv (i64.wrap ((Int.tmod v110 long) - v127)) step)) < (rd (0:Int) g.1 (1:Int))))
 else
 some false
def f172_l44 (g : LI×LI) (k : LI×LI) (step:Int) (long:Int) (v110:Int) (v120:Int) (go : (Int×Int×Int×Int) → Option (Int×Int×Int)) (v127:Int) (c4_0_2:Int) (c4_1_2:Int) (c4_2_2:Int) : Option (Int×Int×Int) :=
 bif (decide (v127 < (if (i64.wrap ((Int.tmod v110 long) + (1:Int))) < (rd (0:Int) k.1 (2:Int)) then (i64.wrap ((Int.tmod v110 long) + (1:Int))) else (rd (0:Int) k.1 (2:Int))))) then
 guardF (step ≠ 0) <|
 bindF (f172_j45 g step long v110 v127) fun z59 =>
 bif z59 then
 guardF (0 ≤ (i64.wrap ((i64.wrap (v120 * (rd (0:Int) g.1 (1:Int)))) + (i64.wrap (Int.tdiv (i64.wrap ((Int.tmod v110 long) - v127)) step)))) ∧ (i64.wrap ((i64.wrap (v120 * (rd (0:Int) g.1 (1:Int)))) + (i64.wrap (Int.tdiv (i64.wrap ((Int.tmod v110 long) - v127)) step)))) < (List.length g.2:Int)) <|
 guardF (0 ≤ (i64.wrap ((i64.wrap ((i64.wrap ((i64.wrap (v120 * (rd (0:Int) k.1 (1:Int)))) + (i64.wrap (Int.tdiv v110 long)))) * (rd (0:Int) k.1 (2:Int)))) + v127)) ∧ (i64.wrap ((i64.wrap ((i64.wrap ((i64.wrap (v120 * (rd (0:Int) k.1 (1:Int)))) + (i64.wrap (Int.tdiv v110 long)))) * (rd (0:Int) k.1 (2:Int)))) + v127)) < (List.length k.2:Int)) <|
 bindF (f228 c4_0_2 c4_1_2 c4_2_2 (rd (0:Int) g.2 (i64.wrap ((i64.wrap (v120 * (rd (0:Int) g.1 (1:Int)))) + (i64.wrap (Int.tdiv (i64.wrap ((Int.tmod v110 long) - v127)) step))))) (rd (0:Int) k.2 (i64.wrap ((i64.wrap ((i64.wrap ((i64.wrap (v120 * (rd (0:Int) k.1 (1:Int)))) + (i64.wrap (Int.tdiv v110 long)))) * (rd (0:Int) k.1 (2:Int)))) + v127)))) fun q22_22 =>
 go ((i64.wrap (v127 + (1:Int))),q22_22.1,q22_22.2.1,q22_22.2.2)
 else
 go ((i64.wrap (v127 + (1:Int))),c4_0_2,c4_1_2,c4_2_2)
 else
 some (c4_0_2,c4_1_2,c4_2_2)
def f172_l41 (g : LI×LI) (k : LI×LI) (step:Int) (long:Int) (v110:Int) (go : (Int×Int×Int×Int) → Option (Int×Int×Int)) (v120:Int) (c4_0:Int) (c4_1:Int) (c4_2:Int) : Option (Int×Int×Int) :=
 bif (decide (v120 < (rd (0:Int) k.1 (0:Int)))) then
 bindF (loopF (fun go x=>f172_l44 g k step long v110 v120 go x.1 x.2.1 x.2.2.1 x.2.2.2) fuelN ((0:Int),c4_0,c4_1,c4_2)) fun z58 =>
 go ((i64.wrap (v120 + (1:Int))),z58.1,z58.2.1,z58.2.2)
 else
 some (c4_0,c4_1,c4_2)
def f172_l32 (g : LI×LI) (k : LI×LI) (step:Int) (long:Int) (q5_19 : Int×LI×LI) (go : (Int×LI) → Option LI) (v110:Int) (l5 : LI) : Option LI :=
 bif (decide (v110 < (List.length q5_19.2.2:Int))) then
 guardF (long ≠ 0) <|
 guardF (long ≠ 0) <|
 bindF (loopF (fun go x=>f172_l41 g k step long v110 go x.1 x.2.1 x.2.2.1 x.2.2.2) fuelN ((0:Int),(0:Int),(0:Int),(0:Int))) fun z55 =>
 bindF (f229 z55.1 z55.2.1 z55.2.2 (32:Int)) fun q25_3 =>
 guardF (0 ≤ v110 ∧ v110 < (List.length l5:Int)) <|
 go ((i64.wrap (v110 + (1:Int))),(List.set l5 (Int.toNat v110) q25_3.1))
 else
 some l5
def f172 (g : LI×LI) (k : LI×LI) (step:Int) (long:Int) : Option (Int×LI×LI) :=
 bindF (f172_j3 g k step long) fun z10 =>
 sumF z10 (fun z10a =>
 guardF (0 ≤ (0:Int) ∧ (0:Int) < (List.length k.1:Int)) <|
 guardF (0 ≤ (1:Int) ∧ (1:Int) < (List.length k.1:Int)) <|
 guardF (0 ≤ (2:Int) ∧ (2:Int) < (List.length k.1:Int)) <|
 guardF (0 ≤ (1:Int) ∧ (1:Int) < (List.length g.1:Int)) <|
 bindF (f227 ([(rd (0:Int) k.1 (1:Int)),long])) fun q5_19 =>
 bif (q5_19.1 != (0:Int)) then
 some (q5_19.1,[],[])
 else
 bindF (loopF (fun go x=>f172_l32 g k step long q5_19 go x.1 x.2) fuelN ((0:Int),q5_19.2.2)) fun z46 =>
 some ((0:Int),q5_19.2.1,z46)) (fun z10b =>
 some (z10b,[],[]))
def C172 : Con where
 X := (LI×LI)×(LI×LI)×Int×Int
 Y := Int×LI×LI
 e := 0
 args x := [.dat T3 x.1,.dat T3 x.2.1,.dat T2 x.2.2.1,.dat T2 x.2.2.2]
 hin x := []
 F x := f172 x.1 x.2.1 x.2.2.1 x.2.2.2
 ret y := [.raw true [(.osl 0),(.osl 1)],.dat T2 y.1]
 hout y := [(0,.arr 3 T2 y.2.1),(1,.arr 40 T2 y.2.2)]
 nout := 2
theorem C172_vc (g : LI×LI) (k : LI×LI) (step:Int) (long:Int) (y : Int×LI×LI) (q : f172 g k step long = some y) : VC Tryz.f172 C172 (g,k,step,long) y := by
 unfold f172 at q
 refine OL ?_
 obtain ⟨z10,hz10,q⟩ := bE q
 refine OQ ⟨Sum.elim (fun z10a=>[(0,⟨[(2,.dat T2 step),(3,.dat T2 long),(4,P0 0 0),(5,P0 1 0),(8,P0 2 0)],[(0,.cells [(.d T1 g.1),(.d T1 g.2)]),(1,.cells [(.d T1 k.1),(.d T1 k.2)]),(2,.cells [N0,N0])],3⟩)]) (fun z10b=>[(1,⟨[(8,P0 0 0),(9,.dat T2 z10b)],[(0,.cells [N0,N0])],1⟩)]) z10,?_,?_⟩
 ·have q := hz10
  clear hz10
  unfold f172_j3 at q
  obtain ⟨z14,hz14,q⟩ := bE q
  refine OQ ⟨[(0,⟨[(2,.dat T2 step),(3,.dat T2 long),(4,P0 0 0),(5,P0 1 0),(8,P0 2 0),(23,.dat .bool z14)],[(0,.cells [(.d T1 g.1),(.d T1 g.2)]),(1,.cells [(.d T1 k.1),(.d T1 k.2)]),(2,.cells [N0,N0])],3⟩)],?_,?_⟩
  ·have q := hz14
   clear hz14
   unfold f172_j4 at q
   obtain ⟨r15,hr15,q⟩ := bE q
   refine OL (AI f59_in (cV (cQ C59 (g.1,g.2) r15 [] false C59_holds hr15 rfl rfl (R2 (K0 (cN q (fun q=>?_) (fun q=>?_)))))))
   ·refine gY ?_
    obtain ⟨r16,hr16,q⟩ := bE q
    refine OL (AI f59_in (cV (cQ C59 (k.1,k.2) r16 [] false C59_holds hr16 rfl rfl (R2 (K0 (gY (cF (cN q (fun q=>?_) (fun q=>?_)))))))))
    ·refine gY ?_
     obtain ⟨r17,hr17,q⟩ := bE q
     refine OL (AI f224_in (cV (cQ C224 step r17 [] false C224_holds hr17 rfl rfl (AI rfl (K0 (gY (cF (cN q (fun q=>?_) (fun q=>?_)))))))))
     ·refine gY ?_
      obtain ⟨r18,hr18,q⟩ := bE q
      refine OL (AI f225_in (cV (cQ C225 long r18 [] false C225_holds hr18 rfl rfl (AI rfl (K0 (gY (cF ?_)))))))
      cases sE q
      refine E4 I3 (R4 (AI (R3 TV) (R3 TV)))
     refine gN (gN (cT ?_))
     cases sE q
     refine E4 I3 (R4 (AI (R3 TV) (R3 TV)))
    refine gN (gN (cT (gN (gN (gN (cT ?_))))))
    cases sE q
    refine E4 I3 (R4 (AI (R3 TV) (R3 TV)))
   refine gN (gN (cT (gN (gN (gN (cT (gN (gN (gN (cT ?_))))))))))
   cases sE q
   refine E4 I3 (R4 (AI (R3 TV) (R3 TV)))
  refine AI (cI q (fun q=>?_) (fun q=>?_)) TV
  ·refine OL (OL ?_)
   cases sE q
   refine E4 [(0,some 2)] (R2 (AJ (AI rfl TV)))
  obtain ⟨z19,hz19,q⟩ := bE q
  refine OQ ⟨[(0,⟨[(2,.dat T2 step),(3,.dat T2 long),(4,P0 0 0),(5,P0 1 0),(8,P0 2 0),(43,.dat .bool z19)],[(0,.cells [(.d T1 g.1),(.d T1 g.2)]),(1,.cells [(.d T1 k.1),(.d T1 k.2)]),(2,.cells [N0,N0])],3⟩)],?_,?_⟩
  ·have q := hz19
   clear hz19
   unfold f172_j5 at q
   refine EI (.take 0 (.take 1 (.take 2 (.take 3 (.take 4 (.take 5 (.take 6 (.take 7 (.take 8 (.take 9 (.take 10 (.take 11 (.take 12 (.take 13 (.take 14 (.take 15 (.take 16 (.take 17 (.take 18 (.take 19 (.take 20 (.take 21 (.take 22 (.take 23 (.take 24 (.take 25 (.take 26 (.take 27 (.take 29 (.take 30 (.take 31 (.take 32 (.alt 28 (.take 33 (.take 34 (.take 35 .done))) .done))))))))))))))))))))))))))))))))) (EI [] (EI [] (AI rfl (cN q (fun q=>?_) (fun q=>?_)))))
   ·refine gY (gY (gY (cF (cN q (fun q=>?_) (fun q=>?_)))))
    ·refine gY (gY (gI q (fun q=>?_)))
     refine gY (gY (gY (gY (gI q (fun q=>?_)))))
     refine gY (gY (cF (cN q (fun q=>?_) (fun q=>?_))))
     ·refine gY (gY (gY (gI q (fun q=>?_))))
      refine gY (gY (gY (gY (gY (gI q (fun q=>?_))))))
      refine gY (AI TV (gY ?_))
      obtain ⟨q3_28,hq3_28,q⟩ := bE q
      refine OL (AI f226_in (cV (cQ C226 (long,(rd (0:Int) k.1 (2:Int)),step) q3_28 [] false C226_holds hq3_28 rfl rfl (R3 (K0 (gY (cF ?_)))))))
      cases sE q
      refine E4 I3 (R4 (AI (R3 TV) (R3 TV)))
     refine gN (gN (gN (gN (gN (gN (gN (gN (gN (AI TV (gN (gN (cT ?_))))))))))))
     cases sE q
     refine E4 I3 (R4 (AI (R3 TV) (R3 TV)))
    refine gN (gN (gN (gN (gN (gN (gN (gN (cT (gN (gN (gN (gN (gN (gN (gN (gN (gN (gN (AI TV (gN (gN (cT ?_))))))))))))))))))))))
    cases sE q
    refine E4 I3 (R4 (AI (R3 TV) (R3 TV)))
   refine gN (gN (gN (cT (gN (gN (gN (gN (gN (gN (gN (gN (gN (cT (gN (gN (gN (gN (gN (gN (gN (gN (gN (gN (AI TV (gN (gN (cT ?_)))))))))))))))))))))))))))
   cases sE q
   refine E4 I3 (R4 (AI (R3 TV) (R3 TV)))
  refine AI (cI q (fun q=>?_) (fun q=>?_)) TV
  ·refine OL (OL ?_)
   cases sE q
   refine E4 [(0,some 2)] (R2 (AJ (AI rfl TV)))
  cases sE q
  refine E4 I3 (R3 (AI (R3 TV) (R3 TV)))
 rcases z10 with z10a | z10b
 ·dsimp only [sumF] at q
  refine AI (OL (EI (.take 0 (.take 1 (.take 2 (.take 3 (.take 4 (.take 5 (.take 6 (.take 7 (.take 8 (.take 9 (.take 10 (.take 11 (.take 12 (.take 13 (.take 14 (.take 15 (.take 16 (.take 17 (.take 18 (.take 19 .done)))))))))))))))))))) (EI [] (EI [] (AI rfl (gI q (fun q=>?_))))))) TV
  refine gI q (fun q=>?_)
  refine gI q (fun q=>?_)
  refine gI q (fun q=>?_)
  refine OL (OL ?_)
  obtain ⟨q5_19,hq5_19,q⟩ := bE q
  refine OL (AI f227_in (cV (cQ C227 [(rd (0:Int) k.1 (1:Int)),long] q5_19 [] true C227_holds hq5_19 rfl rfl (AI rfl (AI (fun _=>rfl) (R2 (AI TV (AI TV (OL (OL (OL (cI q (fun q=>?_) (fun q=>?_)))))))))))))
  ·refine OL (OL ?_)
   cases sE q
   refine AI rfl (E4 [(0,none),(1,none)] (R2 (AJ (R2 TV))))
  refine OL (OL ?_)
  obtain ⟨z46,hz46,q⟩ := bE q
  refine lI (Int×LI) LI (fun x=>⟨[(2,.dat T2 step),(3,.dat T2 long),(4,P0 0 0),(5,P0 1 0),(8,P0 2 0),(10,.dat T2 (rd (0:Int) k.1 (0:Int))),(11,.dat T2 (rd (0:Int) k.1 (1:Int))),(12,.dat T2 (rd (0:Int) k.1 (2:Int))),(13,.dat T2 (rd (0:Int) g.1 (1:Int))),(14,P0 3 0),(109,.dat T2 (List.length q5_19.2.2:Int)),(110,.dat T2 x.1)],[(0,.cells [(.d T1 g.1),(.d T1 g.2)]),(1,.cells [(.d T1 k.1),(.d T1 k.2)]),(2,.cells [N0,N0]),(3,.cells [(.osl 4),(.osl 5)]),(4,.arr 3 T2 q5_19.2.1),(5,.arr 40 T2 x.2)],6⟩) (fun z=>[(3,⟨[(8,P0 0 0),(14,P0 1 0)],[(0,.cells [N0,N0]),(1,.cells [(.osl 2),(.osl 3)]),(2,.arr 3 T2 q5_19.2.1),(3,.arr 40 T2 z)],4⟩)]) (loopF (fun go x=>f172_l32 g k step long q5_19 go x.1 x.2)) fuelN ((0:Int),q5_19.2.2) z46 (AI hz46 (AI (E4 [(0,some 0),(1,some 1),(2,some 2),(3,some 6),(4,some 4),(5,some 5)] (R9 (AI (R4 TV) (R6 TV)))) (AI (fun _ _ h=>lZ h) (AI (fun m=>curI (fun v110=>fun l5 z q=>?_)) ?_))))
  ·have q : f172_l32 g k step long q5_19 (loopF (fun go x=>f172_l32 g k step long q5_19 go x.1 x.2) m) v110 l5 = some z := q
   unfold f172_l32 at q
   refine OL (OL (cI q (fun q=>?_) (fun q=>?_)))
   ·refine OL (OL (OL (EI (.take 0 (.take 1 (.take 2 (.take 3 (.take 4 (.take 5 (.take 6 (.take 7 .done)))))))) (EI [] (EI [] (AI rfl (gI q (fun q=>?_))))))))
    refine gI q (fun q=>?_)
    refine OL (OL (OL ?_))
    obtain ⟨z55,hz55,q⟩ := bE q
    refine lI (Int×Int×Int×Int) (Int×Int×Int) (fun x=>⟨[(2,.dat T2 step),(3,.dat T2 long),(4,P0 0 0),(5,P0 1 0),(8,P0 2 0),(10,.dat T2 (rd (0:Int) k.1 (0:Int))),(11,.dat T2 (rd (0:Int) k.1 (1:Int))),(12,.dat T2 (rd (0:Int) k.1 (2:Int))),(13,.dat T2 (rd (0:Int) g.1 (1:Int))),(14,P0 3 0),(16,.dat T2 v110),(17,.dat T2 (i64.wrap (Int.tdiv v110 long))),(18,.dat T2 (Int.tmod v110 long)),(19,P0 4 0),(109,.dat T2 (List.length q5_19.2.2:Int)),(110,.dat T2 v110),(119,.dat T2 (rd (0:Int) k.1 (0:Int))),(120,.dat T2 x.1)],[(0,.cells [(.d T1 g.1),(.d T1 g.2)]),(1,.cells [(.d T1 k.1),(.d T1 k.2)]),(2,.cells [N0,N0]),(3,.cells [(.osl 5),(.osl 6)]),(4,.cells [(.d T2 x.2.1),(.d T2 x.2.2.1),(.d T4 x.2.2.2)]),(5,.arr 3 T2 q5_19.2.1),(6,.arr 40 T2 l5)],7⟩) (fun z=>[(5,⟨[(2,.dat T2 step),(3,.dat T2 long),(4,P0 0 0),(5,P0 1 0),(8,P0 2 0),(10,.dat T2 (rd (0:Int) k.1 (0:Int))),(11,.dat T2 (rd (0:Int) k.1 (1:Int))),(12,.dat T2 (rd (0:Int) k.1 (2:Int))),(13,.dat T2 (rd (0:Int) g.1 (1:Int))),(14,P0 3 0),(16,.dat T2 v110),(19,P0 4 0),(109,.dat T2 (List.length q5_19.2.2:Int)),(110,.dat T2 v110)],[(0,.cells [(.d T1 g.1),(.d T1 g.2)]),(1,.cells [(.d T1 k.1),(.d T1 k.2)]),(2,.cells [N0,N0]),(3,.cells [(.osl 5),(.osl 6)]),(4,.cells [(.d T2 z.1),(.d T2 z.2.1),(.d T4 z.2.2)]),(5,.arr 3 T2 q5_19.2.1),(6,.arr 40 T2 l5)],7⟩)]) (loopF (fun go x=>f172_l41 g k step long v110 go x.1 x.2.1 x.2.2.1 x.2.2.2)) fuelN ((0:Int),(0:Int),(0:Int),(0:Int)) z55 (AI hz55 (AI (E4 [(0,some 0),(1,some 1),(2,some 2),(3,some 3),(4,some 6),(5,some 4),(6,some 5)] (R14 (AI (R5 TV) (R7 TV)))) (AI (fun _ _ h=>lZ h) (AI (fun m=>curI (fun v120=>curI (fun c4_0=>curI (fun c4_1=>fun c4_2 z q=>?_)))) ?_))))
    ·have q : f172_l41 g k step long v110 (loopF (fun go x=>f172_l41 g k step long v110 go x.1 x.2.1 x.2.2.1 x.2.2.2) m) v120 c4_0 c4_1 c4_2 = some z := q
     unfold f172_l41 at q
     refine OL (OL (cI q (fun q=>?_) (fun q=>?_)))
     ·refine OL (OL (OL ?_))
      obtain ⟨z58,hz58,q⟩ := bE q
      refine lI (Int×Int×Int×Int) (Int×Int×Int) (fun x=>⟨[(2,.dat T2 step),(3,.dat T2 long),(4,P0 0 0),(5,P0 1 0),(8,P0 2 0),(10,.dat T2 (rd (0:Int) k.1 (0:Int))),(11,.dat T2 (rd (0:Int) k.1 (1:Int))),(12,.dat T2 (rd (0:Int) k.1 (2:Int))),(13,.dat T2 (rd (0:Int) g.1 (1:Int))),(14,P0 3 0),(16,.dat T2 v110),(17,.dat T2 (i64.wrap (Int.tdiv v110 long))),(18,.dat T2 (Int.tmod v110 long)),(19,P0 4 0),(20,.dat T2 v120),(109,.dat T2 (List.length q5_19.2.2:Int)),(110,.dat T2 v110),(119,.dat T2 (rd (0:Int) k.1 (0:Int))),(120,.dat T2 v120),(126,.dat T2 (if (i64.wrap ((Int.tmod v110 long) + (1:Int))) < (rd (0:Int) k.1 (2:Int)) then (i64.wrap ((Int.tmod v110 long) + (1:Int))) else (rd (0:Int) k.1 (2:Int)))),(127,.dat T2 x.1)],[(0,.cells [(.d T1 g.1),(.d T1 g.2)]),(1,.cells [(.d T1 k.1),(.d T1 k.2)]),(2,.cells [N0,N0]),(3,.cells [(.osl 5),(.osl 6)]),(4,.cells [(.d T2 x.2.1),(.d T2 x.2.2.1),(.d T4 x.2.2.2)]),(5,.arr 3 T2 q5_19.2.1),(6,.arr 40 T2 l5)],7⟩) (fun z=>[(7,⟨[(2,.dat T2 step),(3,.dat T2 long),(4,P0 0 0),(5,P0 1 0),(8,P0 2 0),(10,.dat T2 (rd (0:Int) k.1 (0:Int))),(11,.dat T2 (rd (0:Int) k.1 (1:Int))),(12,.dat T2 (rd (0:Int) k.1 (2:Int))),(13,.dat T2 (rd (0:Int) g.1 (1:Int))),(14,P0 3 0),(16,.dat T2 v110),(17,.dat T2 (i64.wrap (Int.tdiv v110 long))),(18,.dat T2 (Int.tmod v110 long)),(19,P0 4 0),(109,.dat T2 (List.length q5_19.2.2:Int)),(110,.dat T2 v110),(119,.dat T2 (rd (0:Int) k.1 (0:Int))),(120,.dat T2 v120)],[(0,.cells [(.d T1 g.1),(.d T1 g.2)]),(1,.cells [(.d T1 k.1),(.d T1 k.2)]),(2,.cells [N0,N0]),(3,.cells [(.osl 5),(.osl 6)]),(4,.cells [(.d T2 z.1),(.d T2 z.2.1),(.d T4 z.2.2)]),(5,.arr 3 T2 q5_19.2.1),(6,.arr 40 T2 l5)],7⟩)]) (loopF (fun go x=>f172_l44 g k step long v110 v120 go x.1 x.2.1 x.2.2.1 x.2.2.2)) fuelN ((0:Int),c4_0,c4_1,c4_2) z58 (AI hz58 (AI (E4 I7 (R17 (AI (R5 TV) (R7 TV)))) (AI (fun _ _ h=>lZ h) (AI (fun m=>curI (fun v127=>curI (fun c4_0_2=>curI (fun c4_1_2=>fun c4_2_2 z q=>?_)))) ?_))))
      ·have q : f172_l44 g k step long v110 v120 (loopF (fun go x=>f172_l44 g k step long v110 v120 go x.1 x.2.1 x.2.2.1 x.2.2.2) m) v127 c4_0_2 c4_1_2 c4_2_2 = some z := q
       unfold f172_l44 at q
       refine OL (OL (cI q (fun q=>?_) (fun q=>?_)))
       ·refine OL (OL (OL (gI q (fun q=>?_))))
        obtain ⟨z59,hz59,q⟩ := bE q
        refine OQ ⟨[(0,⟨[(2,.dat T2 step),(3,.dat T2 long),(4,P0 0 0),(5,P0 1 0),(8,P0 2 0),(10,.dat T2 (rd (0:Int) k.1 (0:Int))),(11,.dat T2 (rd (0:Int) k.1 (1:Int))),(12,.dat T2 (rd (0:Int) k.1 (2:Int))),(13,.dat T2 (rd (0:Int) g.1 (1:Int))),(14,P0 3 0),(16,.dat T2 v110),(17,.dat T2 (i64.wrap (Int.tdiv v110 long))),(18,.dat T2 (Int.tmod v110 long)),(19,P0 4 0),(20,.dat T2 v120),(21,.dat T2 v127),(22,.dat T2 (i64.wrap (Int.tdiv (i64.wrap ((Int.tmod v110 long) - v127)) step))),(109,.dat T2 (List.length q5_19.2.2:Int)),(110,.dat T2 v110),(119,.dat T2 (rd (0:Int) k.1 (0:Int))),(120,.dat T2 v120),(126,.dat T2 (if (i64.wrap ((Int.tmod v110 long) + (1:Int))) < (rd (0:Int) k.1 (2:Int)) then (i64.wrap ((Int.tmod v110 long) + (1:Int))) else (rd (0:Int) k.1 (2:Int)))),(127,.dat T2 v127),(145,.dat .bool z59)],[(0,.cells [(.d T1 g.1),(.d T1 g.2)]),(1,.cells [(.d T1 k.1),(.d T1 k.2)]),(2,.cells [N0,N0]),(3,.cells [(.osl 5),(.osl 6)]),(4,.cells [(.d T2 c4_0_2),(.d T2 c4_1_2),(.d T4 c4_2_2)]),(5,.arr 3 T2 q5_19.2.1),(6,.arr 40 T2 l5)],7⟩)],?_,?_⟩
        ·have q := hz59
         clear hz59
         unfold f172_j45 at q
         refine gI q (fun q=>?_)
         refine cI q (fun q=>?_) (fun q=>?_)
         ·refine gX (gX (cT ?_))
          cases sE q
          refine E4 I7 (R20 (AI (R5 TV) (R7 TV)))
         refine gM (gM (cF ?_))
         cases sE q
         refine E4 I7 (R20 (AI (R5 TV) (R7 TV)))
        refine AI (cI q (fun q=>?_) (fun q=>?_)) TV
        ·refine EI (.take 0 (.take 1 (.take 2 (.take 3 (.take 4 (.take 5 (.take 6 (.take 7 (.take 8 (.take 9 (.take 10 (.take 11 (.take 12 (.take 13 (.take 14 (.take 15 (.take 16 (.take 17 (.take 18 (.take 19 (.take 20 (.take 21 (.alt 22 .done .done))))))))))))))))))))))) (EI [] (EI [] (AI rfl (gI q (fun q=>?_)))))
         refine gI q (fun q=>?_)
         refine AI TV ?_
         obtain ⟨q22_22,hq22_22,q⟩ := bE q
         refine OL (AI f228_in (cV (cQ C228 (c4_0_2,c4_1_2,c4_2_2,(rd (0:Int) g.2 (i64.wrap ((i64.wrap (v120 * (rd (0:Int) g.1 (1:Int)))) + (i64.wrap (Int.tdiv (i64.wrap ((Int.tmod v110 long) - v127)) step))))),(rd (0:Int) k.2 (i64.wrap ((i64.wrap ((i64.wrap ((i64.wrap (v120 * (rd (0:Int) k.1 (1:Int)))) + (i64.wrap (Int.tdiv v110 long)))) * (rd (0:Int) k.1 (2:Int)))) + v127)))) q22_22 [(0,some 4)] false C228_holds hq22_22 rfl rfl (R2 (AI NH (R2 (AJ (AJ (EI ((i64.wrap (v127 + (1:Int))),q22_22.1,q22_22.2.1,q22_22.2.2) (AI q (E4 I7 (R17 (AI (R5 TV) (R7 TV))))))))))))))
        refine EI ((i64.wrap (v127 + (1:Int))),c4_0_2,c4_1_2,c4_2_2) (AI q (E4 I7 (R17 (AI (R5 TV) (R7 TV)))))
       cases sE q
       refine E4 I7 (R14 (AI (R5 TV) (R7 TV)))
      refine AI (EI ((i64.wrap (v120 + (1:Int))),z58.1,z58.2.1,z58.2.2) (AI q (E4 I7 (R14 (AI (R5 TV) (R7 TV)))))) TV
     cases sE q
     refine E4 I7 (R10 (AI (R5 TV) (R7 TV)))
    refine AI (EI (.take 0 (.take 1 (.take 2 (.alt 3 (.take 4 (.alt 5 .done .done)) .done)))) (EI [] (EI [] (AI rfl (AI TV ?_))))) TV
    obtain ⟨q25_3,hq25_3,q⟩ := bE q
    refine OL (AI f229_in (cV (cQ C229 (z55.1,z55.2.1,z55.2.2,(32:Int)) q25_3 [(0,some 4)] false C229_holds hq25_3 rfl rfl (AI rfl (AI NH (R2 (AJ (AJ (gI q (fun q=>?_))))))))))
    refine AI TV (OL (EI ((i64.wrap (v110 + (1:Int))),(List.set l5 (Int.toNat v110) q25_3.1)) (AI q (E4 [(0,some 0),(1,some 1),(2,some 2),(3,some 3),(4,some 5),(5,some 6)] (R9 (AI (R4 TV) (R6 TV)))))))
   cases sE q
   refine E4 [(0,some 2),(1,some 3),(2,some 4),(3,some 5)] (AI rfl (AI (R2 TV) (R4 TV)))
  refine AI (OL (OL ?_)) TV
  cases sE q
  refine AI rfl (E4 [(0,some 2),(1,some 3)] (R2 (AJ (R2 TV))))
 dsimp only [sumF] at q
 refine AI ?_ TV
 cases sE q
 refine AI rfl (E4 [(0,none),(1,none)] (R2 (AJ (R2 TV))))
theorem C172_holds : HP C172 172 := hH Tryz.f172 (by kernel_rfl) rfl (fun x y q=>C172_vc x.1 x.2.1 x.2.2.1 x.2.2.2 y q)
theorem f172_in : InP 172 := inP (by kernel_rfl)
def f173_l1 (g : LI×LI) (r1 : Int×LI×LI×LI) (go : (Int×LI) → Option LI) (v29:Int) (l5 : LI) : Option LI :=
 bif (decide (v29 < (List.length r1.2.2.2:Int))) then
 guardF (0 ≤ v29 ∧ v29 < (List.length r1.2.2.2:Int)) <|
 guardF (0 ≤ v29 ∧ v29 < (List.length g.2:Int)) <|
 guardF (0 ≤ (rd (0:Int) r1.2.2.2 v29) ∧ (rd (0:Int) r1.2.2.2 v29) < (List.length l5:Int)) <|
 go ((i64.wrap (v29 + (1:Int))),(List.set l5 (Int.toNat (rd (0:Int) r1.2.2.2 v29)) (rd (0:Int) g.2 v29)))
 else
 some l5
def f173 (g : LI×LI) (a : LI×LI) (wide:Int) : Option (LI×LI) :=
 bindF (f68 a.1 (0:Int)) fun q6_9 =>
 bindF (f206 (a.1,a.2) wide) fun r1 =>
 bindF (loopF (fun go x=>f173_l1 g r1 go x.1 x.2) fuelN ((0:Int),q6_9.2.2)) fun z2 =>
 some (q6_9.2.1,z2)
def C173 : Con where
 X := (LI×LI)×(LI×LI)×Int
 Y := LI×LI
 e := 0
 args x := [.dat T3 x.1,.dat T3 x.2.1,.dat T2 x.2.2]
 hin x := []
 F x := f173 x.1 x.2.1 x.2.2
 ret y := [.raw true [(.osl 0),(.osl 1)]]
 hout y := [(0,.arr 3 T2 y.1),(1,.arr 40 T2 y.2)]
 nout := 2
theorem C173_vc (g : LI×LI) (a : LI×LI) (wide:Int) (y : LI×LI) (q : f173 g a wide = some y) : VC Tryz.f173 C173 (g,a,wide) y := by
 unfold f173 at q
 refine OL (OL ?_)
 obtain ⟨q6_9,hq6_9,q⟩ := bE q
 refine OL (AI f68_in (cV (cQ C68 (a.1,(0:Int)) q6_9 [] false C68_holds hq6_9 rfl rfl (R2 (K0 (OL (OL ?_)))))))
 obtain ⟨r1,hr1,q⟩ := bE q
 refine OL (AI f206_in (cV (cQ C206 ((a.1,a.2),wide) r1 [] false C206_holds hr1 rfl rfl (R3 (K0 (OL (OL (OL ?_))))))))
 obtain ⟨z2,hz2,q⟩ := bE q
 refine lI (Int×LI) LI (fun x=>⟨[(3,P0 0 0),(6,P0 1 0),(7,P0 2 0),(27,O0 3),(28,.dat T2 (List.length r1.2.2.2:Int)),(29,.dat T2 x.1)],[(0,.cells [(.d T1 g.1),(.d T1 g.2)]),(1,.cells [N0,N0]),(2,.cells [(.osl 4),(.osl 5)]),(3,.arr 3 T2 r1.2.2.2),(4,.arr 3 T2 q6_9.2.1),(5,.arr 40 T2 x.2)],6⟩) (fun z=>[(2,⟨[(6,P0 0 0),(7,P0 1 0)],[(0,.cells [N0,N0]),(1,.cells [(.osl 2),(.osl 3)]),(2,.arr 3 T2 q6_9.2.1),(3,.arr 40 T2 z)],4⟩)]) (loopF (fun go x=>f173_l1 g r1 go x.1 x.2)) fuelN ((0:Int),q6_9.2.2) z2 (AI hz2 (AI (E4 [(0,some 0),(1,some 2),(2,some 5),(3,some 8),(4,some 3),(5,some 4)] (R3 (AI (R4 TV) (R6 TV)))) (AI (fun _ _ h=>lZ h) (AI (fun m=>curI (fun v29=>fun l5 z q=>?_)) ?_))))
 ·have q : f173_l1 g r1 (loopF (fun go x=>f173_l1 g r1 go x.1 x.2) m) v29 l5 = some z := q
  unfold f173_l1 at q
  refine OL (OL (cI q (fun q=>?_) (fun q=>?_)))
  ·refine OL (OL (gI q (fun q=>?_)))
   refine EI (.take 0 (.take 1 (.take 2 (.take 3 (.take 4 (.take 5 (.take 6 (.take 7 (.take 8 (.alt 9 .done .done)))))))))) (EI [] (EI [] (AI rfl (gI q (fun q=>?_)))))
   refine gI q (fun q=>?_)
   refine AI TV (OL (EI ((i64.wrap (v29 + (1:Int))),(List.set l5 (Int.toNat (rd (0:Int) r1.2.2.2 v29)) (rd (0:Int) g.2 v29))) (AI q (E4 I6 (R3 (AI (R4 TV) (R6 TV)))))))
  cases sE q
  refine E4 [(0,some 1),(1,some 2),(2,some 4),(3,some 5)] (AI rfl (AI (R2 TV) (R4 TV)))
 refine AI (OL (OL ?_)) TV
 cases sE q
 refine AI rfl (E4 [(0,some 2),(1,some 3)] (AI rfl (AJ (R2 TV))))
theorem C173_holds : HP C173 173 := hH Tryz.f173 (by kernel_rfl) rfl (fun x y q=>C173_vc x.1 x.2.1 x.2.2 y q)
theorem f173_in : InP 173 := inP (by kernel_rfl)
def f111_j1 (n : ND) : Option Bool :=
 bif (n.1 == (2:Int)) then
 some (n.1 == (2:Int))
 else
 some (n.1 == (3:Int))
def f111 (n : ND) (a : LI×LI) (b : LI×LI) (g : LI×LI) : Option (Int×LI×LI) :=
 bindF (f111_j1 n) fun z1 =>
 bif z1 then
 bindF (f163 (g.1,g.2) a.1) fun r2 =>
 some (r2.1,r2.2.1,r2.2.2)
 else
 bif (n.1 == (4:Int)) then
 bindF (f164 (g.1,g.2) (b.1,b.2)) fun r3 =>
 bindF (f165 (r3.2.1,r3.2.2) r3.1 a.1) fun r4 =>
 some (r4.1,r4.2.1,r4.2.2)
 else
 bif (n.1 == (5:Int)) then
 bindF (f166 (g.1,g.2) n.2.2.2.1) fun r5 =>
 some (r5.1,r5.2.1,r5.2.2)
 else
 bif (n.1 == (6:Int)) then
 bindF (f167 (g.1,g.2) (b.1,b.2) false) fun r6 =>
 some (r6.1,r6.2.1,r6.2.2)
 else
 bif (n.1 == (7:Int)) then
 bindF (f168 (g.1,g.2)) fun r7 =>
 some (r7.1,r7.2.1,r7.2.2)
 else
 bif (n.1 == (8:Int)) then
 bindF (f169 (g.1,g.2) a.1 n.2.2.2.1) fun r8 =>
 some ((0:Int),r8.1,r8.2)
 else
 bif (n.1 == (9:Int)) then
 guardF (0 ≤ (0:Int) ∧ (0:Int) < (List.length g.2:Int)) <|
 bindF (f68 a.1 (rd (0:Int) g.2 (0:Int))) fun q17_6 =>
 some (q17_6.1,q17_6.2.1,q17_6.2.2)
 else
 bif (n.1 == (10:Int)) then
 guardF (0 ≤ (0:Int) ∧ (0:Int) < (List.length g.2:Int)) <|
 bindF (f84 (rd (0:Int) g.2 (0:Int))) fun q19_6 =>
 bindF (f170 (q19_6.1,q19_6.2) (List.length a.2:Int)) fun q19_10 =>
 bindF (f68 a.1 q19_10) fun q19_11 =>
 some (q19_11.1,q19_11.2.1,q19_11.2.2)
 else
 bif (n.1 == (11:Int)) then
 bindF (f171 n.2.2.2.1 (a.1,a.2) (g.1,g.2)) fun q19_15 =>
 some (q19_15.1,q19_15.2.1,q19_15.2.2)
 else
 bif (n.1 == (12:Int)) then
 guardF (0 ≤ (1:Int) ∧ (1:Int) < (List.length a.1:Int)) <|
 bindF (f172 (g.1,g.2) (b.1,b.2) n.2.2.2.1 (rd (0:Int) a.1 (1:Int))) fun q23_8 =>
 some (q23_8.1,q23_8.2.1,q23_8.2.2)
 else
 bif (n.1 == (13:Int)) then
 bindF (f173 (g.1,g.2) (a.1,a.2) n.2.2.2.1) fun q23_12 =>
 some ((0:Int),q23_12.1,q23_12.2)
 else
 bif (n.1 == (14:Int)) then
 bindF (f174 (g.1,g.2) a.1) fun r9 =>
 some (r9.1,r9.2.1,r9.2.2)
 else
 some ((0:Int),[],[])
def C111 : Con where
 X := (ND)×(LI×LI)×(LI×LI)×(LI×LI)
 Y := Int×LI×LI
 e := 0
 args x := [.dat T0 x.1,.dat T3 x.2.1,.dat T3 x.2.2.1,.dat T3 x.2.2.2]
 hin x := []
 F x := f111 x.1 x.2.1 x.2.2.1 x.2.2.2
 ret y := [.raw true [(.osl 0),(.osl 1)],.dat T2 y.1]
 hout y := [(0,.arr 3 T2 y.2.1),(1,.arr 40 T2 y.2.2)]
 nout := 2
theorem C111_vc (n : ND) (a : LI×LI) (b : LI×LI) (g : LI×LI) (y : Int×LI×LI) (q : f111 n a b g = some y) : VC Tryz.f111 C111 (n,a,b,g) y := by
 unfold f111 at q
 refine OL (OL (OL ?_))
 obtain ⟨z1,hz1,q⟩ := bE q
 refine OQ ⟨[(0,⟨[(4,P0 0 0),(5,P0 1 0),(6,P0 2 0),(7,P0 3 0),(8,P0 4 0),(13,.dat T2 n.1),(14,.dat .bool z1)],[(0,.cells [(.d T2 n.1),(.d T2 n.2.1),(.d T2 n.2.2.1),(.d T2 n.2.2.2.1),(.d T1 n.2.2.2.2.1),(.d T1 n.2.2.2.2.2)]),(1,.cells [(.d T1 a.1),(.d T1 a.2)]),(2,.cells [(.d T1 b.1),(.d T1 b.2)]),(3,.cells [(.d T1 g.1),(.d T1 g.2)]),(4,.cells [N0,N0])],5⟩)],?_,?_⟩
 ·have q := hz1
  clear hz1
  unfold f111_j1 at q
  refine OL (cI q (fun q=>?_) (fun q=>?_))
  ·cases sE q
   refine E4 I5 (R3 (AI (R5 TV) (R5 TV)))
  cases sE q
  refine E4 I5 (R3 (AI (R5 TV) (R5 TV)))
 refine AI (cI q (fun q=>?_) (fun q=>?_)) TV
 ·refine OL ?_
  obtain ⟨r2,hr2,q⟩ := bE q
  refine OL (AI f163_in (cV (cQ C163 ((g.1,g.2),a.1) r2 [] false C163_holds hr2 rfl rfl (R3 (K0 (OL ?_))))))
  cases sE q
  refine AI rfl (E4 [(0,some 5),(1,some 6)] (R2 (AJ (R2 TV))))
 refine OL (cI q (fun q=>?_) (fun q=>?_))
 ·refine OL ?_
  obtain ⟨r3,hr3,q⟩ := bE q
  refine OL (AI f164_in (cV (cQ C164 ((g.1,g.2),(b.1,b.2)) r3 [] false C164_holds hr3 rfl rfl (R4 (K0 (OL (OL ?_)))))))
  obtain ⟨r4,hr4,q⟩ := bE q
  refine OL (AI f165_in (cV (cQ C165 ((r3.2.1,r3.2.2),r3.1,a.1) r4 [] true C165_holds hr4 rfl rfl (R4 (AI (fun _=>rfl) (R2 (AI TV (AI TV (OL ?_)))))))))
  cases sE q
  refine AI rfl (E4 [(0,some 8),(1,some 9)] (R2 (AJ (R2 TV))))
 refine OL (cI q (fun q=>?_) (fun q=>?_))
 ·refine OL ?_
  obtain ⟨r5,hr5,q⟩ := bE q
  refine OL (AI f166_in (cV (cQ C166 ((g.1,g.2),n.2.2.2.1) r5 [] false C166_holds hr5 rfl rfl (R3 (K0 (OL ?_))))))
  cases sE q
  refine AI rfl (E4 [(0,some 5),(1,some 6)] (R2 (AJ (R2 TV))))
 refine OL (cI q (fun q=>?_) (fun q=>?_))
 ·refine OL ?_
  obtain ⟨r6,hr6,q⟩ := bE q
  refine OL (AI f167_in (cV (cQ C167 ((g.1,g.2),(b.1,b.2),false) r6 [] false C167_holds hr6 rfl rfl (R5 (K0 (OL ?_))))))
  cases sE q
  refine AI rfl (E4 [(0,some 5),(1,some 6)] (R2 (AJ (R2 TV))))
 refine OL (cI q (fun q=>?_) (fun q=>?_))
 ·refine OL ?_
  obtain ⟨r7,hr7,q⟩ := bE q
  refine OL (AI f168_in (cV (cQ C168 (g.1,g.2) r7 [] false C168_holds hr7 rfl rfl (R2 (K0 (OL ?_))))))
  cases sE q
  refine AI rfl (E4 [(0,some 5),(1,some 6)] (R2 (AJ (R2 TV))))
 refine OL (cI q (fun q=>?_) (fun q=>?_))
 ·refine OL ?_
  obtain ⟨r8,hr8,q⟩ := bE q
  refine OL (AI f169_in (cV (cQ C169 ((g.1,g.2),a.1,n.2.2.2.1) r8 [] false C169_holds hr8 rfl rfl (R4 (K0 (OL ?_))))))
  cases sE q
  refine AI rfl (E4 [(0,some 5),(1,some 6)] (R2 (AJ (R2 TV))))
 refine OL (cI q (fun q=>?_) (fun q=>?_))
 ·refine OL (EI (.take 0 (.take 1 (.take 2 (.take 3 (.take 4 (.take 5 (.alt 6 (.take 7 (.take 8 (.alt 9 (.take 10 .done) .done))) .done))))))) (EI [] (EI [] (AI rfl (gI q (fun q=>?_))))))
  refine AI TV ?_
  obtain ⟨q17_6,hq17_6,q⟩ := bE q
  refine OL (AI f68_in (cV (cQ C68 (a.1,(rd (0:Int) g.2 (0:Int))) q17_6 [] false C68_holds hq17_6 rfl rfl (R2 (K0 (AI TV (OL ?_)))))))
  cases sE q
  refine AI rfl (E4 [(0,some 5),(1,some 6)] (R2 (AJ (R2 TV))))
 refine OL (cI q (fun q=>?_) (fun q=>?_))
 ·refine OL (EI (.take 0 (.take 1 (.take 2 (.take 3 (.take 4 (.take 5 (.take 7 (.take 8 (.take 9 (.alt 6 (.alt 10 (.alt 11 (.take 12 (.take 13 (.alt 14 (.take 15 .done) .done))) .done) .done) .done)))))))))) (EI [] (EI [] (AI rfl (gI q (fun q=>?_))))))
  refine AI TV ?_
  obtain ⟨q19_6,hq19_6,q⟩ := bE q
  refine OL (AI f84_in (cV (cQ C84 (rd (0:Int) g.2 (0:Int)) q19_6 [] false C84_holds hq19_6 rfl rfl (AI rfl (K0 (AI TV ?_))))))
  obtain ⟨q19_10,hq19_10,q⟩ := bE q
  refine OL (AI f170_in (cV (cQ C170 ((q19_6.1,q19_6.2),(List.length a.2:Int)) q19_10 [] false C170_holds hq19_10 rfl rfl (R3 (K0 (AI TV ?_))))))
  obtain ⟨q19_11,hq19_11,q⟩ := bE q
  refine OL (AI f68_in (cV (cQ C68 (a.1,q19_10) q19_11 [] false C68_holds hq19_11 rfl rfl (R2 (K0 (AI TV (OL ?_)))))))
  cases sE q
  refine AI rfl (E4 [(0,some 5),(1,some 6)] (R2 (AJ (R2 TV))))
 refine OL (cI q (fun q=>?_) (fun q=>?_))
 ·refine OL ?_
  obtain ⟨q19_15,hq19_15,q⟩ := bE q
  refine OL (AI f171_in (cV (cQ C171 (n.2.2.2.1,(a.1,a.2),(g.1,g.2)) q19_15 [] false C171_holds hq19_15 rfl rfl (R5 (K0 (OL ?_))))))
  cases sE q
  refine AI rfl (E4 [(0,some 5),(1,some 6)] (R2 (AJ (R2 TV))))
 refine OL (cI q (fun q=>?_) (fun q=>?_))
 ·refine OL (EI (.take 0 (.take 1 (.take 2 (.take 3 (.take 4 (.take 5 (.take 6 (.take 7 (.alt 8 (.take 9 (.take 10 (.alt 11 (.take 12 .done) .done))) .done))))))))) (EI [] (EI [] (AI rfl (gI q (fun q=>?_))))))
  refine AI TV ?_
  obtain ⟨q23_8,hq23_8,q⟩ := bE q
  refine OL (AI f172_in (cV (cQ C172 ((g.1,g.2),(b.1,b.2),n.2.2.2.1,(rd (0:Int) a.1 (1:Int))) q23_8 [] false C172_holds hq23_8 rfl rfl (R6 (K0 (AI TV (OL ?_)))))))
  cases sE q
  refine AI rfl (E4 [(0,some 5),(1,some 6)] (R2 (AJ (R2 TV))))
 refine OL (cI q (fun q=>?_) (fun q=>?_))
 ·refine OL ?_
  obtain ⟨q23_12,hq23_12,q⟩ := bE q
  refine OL (AI f173_in (cV (cQ C173 ((g.1,g.2),(a.1,a.2),n.2.2.2.1) q23_12 [] false C173_holds hq23_12 rfl rfl (R5 (K0 (OL ?_))))))
  cases sE q
  refine AI rfl (E4 [(0,some 5),(1,some 6)] (R2 (AJ (R2 TV))))
 refine OL (cI q (fun q=>?_) (fun q=>?_))
 ·refine OL ?_
  obtain ⟨r9,hr9,q⟩ := bE q
  refine OL (AI f174_in (cV (cQ C174 ((g.1,g.2),a.1) r9 [] false C174_holds hr9 rfl rfl (R3 (K0 (OL ?_))))))
  cases sE q
  refine AI rfl (E4 [(0,some 5),(1,some 6)] (R2 (AJ (R2 TV))))
 refine OL (OL ?_)
 cases sE q
 refine AI rfl (E4 [(0,none),(1,none)] (R2 (AJ (R2 TV))))
theorem C111_holds : HP C111 111 := hH Tryz.f111 (by kernel_rfl) rfl (fun x y q=>C111_vc x.1 x.2.1 x.2.2.1 x.2.2.2 y q)
theorem f111_in : InP 111 := inP (by kernel_rfl)
end Go.Proofs
