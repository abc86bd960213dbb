import Derived.Test.YtoicgngppmpapaaGreatSoloKnownS11
set_option linter.unusedVariables false
set_option maxRecDepth 100000
set_option maxHeartbeats 8000000
namespace Go.Proofs
open Go.AM
open IntKind (i64 u64 i32 u32 i16 u16 i8 u8)
def f43_j1 (r1 : Int×LI×LI) (r3a:Int) : Option Unit :=
 bif (r1.1 != (0:Int)) then
 some ()
 else
 bif (r3a != (0:Int)) then
 some ()
 else
 some ()
def f43_j2 (r1 : Int×LI×LI) : Option (Sum Unit Unit) :=
 bif (r1.1 != (0:Int)) then
 some (Sum.inr ())
 else
 bif ((0:Int) != (0:Int)) then
 some (Sum.inr ())
 else
 bif ((List.length r1.2.1:Int) != (2:Int)) then
 some (Sum.inr ())
 else
 bif ((List.length r1.2.2:Int) != (2:Int)) then
 some (Sum.inr ())
 else
 some (Sum.inl ())
def f43 : Option Bool :=
 bindF (f44) fun q7_21 =>
 bindF (f46 (([(1:Int)],[((ByteArray.mk #[100,101,110,115,101]),(1:Int),(0:Int))]),(1:Int),(2:Int),((1073741824:Int),(2147483648:Int),(0:Int)),q7_21,[(0:Int),(0:Int)]) (0:Int)) fun r1 =>
 bindF (f44) fun r2 =>
 bindF (f45 (([(1:Int)],[((ByteArray.mk #[100,101,110,115,101]),(1:Int),(0:Int))]),(1:Int),(2:Int),((1073741824:Int),(2147483648:Int),(0:Int)),r2,[(0:Int),(0:Int)])) fun r3 =>
 sumF r3 (fun r3a =>
 bindF (f43_j1 r1 r3a) fun z4 =>
 some false) (fun r3b =>
 bindF (f43_j2 r1) fun z5 =>
 sumF z5 (fun z5a =>
 bindF (f51 r3b.1 r3b.2.1 r3b.2.2.1 r3b.2.2.2.1 r3b.2.2.2.2.1 r3b.2.2.2.2.2.1 r3b.2.2.2.2.2.2.1 r3b.2.2.2.2.2.2.2.1 r3b.2.2.2.2.2.2.2.2.1 r3b.2.2.2.2.2.2.2.2.2.1 r3b.2.2.2.2.2.2.2.2.2.2 (0:Int) (0:Int) (0:Int)) fun r6 =>
 bindF (f52 r6.2.1 r6.2.2.1 r6.2.2.2.1 r6.2.2.2.2.1 r6.2.2.2.2.2.1 r6.2.2.2.2.2.2.1 r6.2.2.2.2.2.2.2.1 r6.2.2.2.2.2.2.2.2.1 r6.2.2.2.2.2.2.2.2.2.1 r6.2.2.2.2.2.2.2.2.2.2.2.2.2.1 r6.2.2.2.2.2.2.2.2.2.2.2.2.2.2 r6.2.2.2.2.2.2.2.2.2.2.1 r6.2.2.2.2.2.2.2.2.2.2.2.1 r6.2.2.2.2.2.2.2.2.2.2.2.2.1) fun r7 =>
 bif (r6.1 == (0:Int)) then
 bindF (f54 r7.2.2.1 r7.2.2.2.1 r7.2.2.2.2.1 r7.2.2.2.2.2.1 r7.2.2.2.2.2.2.1 r7.2.2.2.2.2.2.2.1 r7.2.2.2.2.2.2.2.2.1 r7.2.2.2.2.2.2.2.2.2.1 r7.2.2.2.2.2.2.2.2.2.2.1 r7.2.2.2.2.2.2.2.2.2.2.2.2.2.2.1 r7.2.2.2.2.2.2.2.2.2.2.2.2.2.2.2 r7.2.2.2.2.2.2.2.2.2.2.2.1 r7.2.2.2.2.2.2.2.2.2.2.2.2.1 r7.2.2.2.2.2.2.2.2.2.2.2.2.2.1) fun q7_4 =>
 bif (q7_4.1 == (1:Int)) then
 bindF (f44) fun q7_9 =>
 bindF (f50 (([(1:Int)],[((ByteArray.mk #[100,101,110,115,101]),(1:Int),(0:Int))]),(1:Int),(2:Int),((1073741824:Int),(2147483648:Int),(0:Int)),q7_9,[(0:Int),(0:Int)])) fun q7_10 =>
 bindF (f89 ((q7_10.1,q7_10.2.2.2.2.2.2.2.1),q7_10.2.1,q7_10.2.2.1,(q7_10.2.2.2.1,q7_10.2.2.2.2.1,q7_10.2.2.2.2.2.1),q7_10.2.2.2.2.2.2.2.2,q7_10.2.2.2.2.2.2.1) (1:Int)) fun q7_11 =>
 bindF (f55 (r7.1,r7.2.1) (q7_11.1,q7_11.2)) fun q7_12 =>
 bif q7_12 then
 guardF (0 ≤ (0:Int) ∧ (0:Int) < (List.length r7.1:Int)) <|
 some ((rd (0:Int) r7.1 (0:Int)) != (0:Int))
 else
 some false
 else
 some false
 else
 some false) (fun z5b =>
 some false))
def C43 : Con where
 X := Unit
 Y := Bool
 e := 0
 args x := []
 hin x := []
 F x := f43
 ret y := [.dat .bool y]
 hout y := []
 nout := 0
theorem C43_vc (y : Bool) (q : f43 = some y) : VC Tryz.f43 C43 () y := by
 unfold f43 at q
 refine OL (OL ?_)
 obtain ⟨q7_21,hq7_21,q⟩ := bE q
 refine OL (AI f44_in (cV (cQ C44 () q7_21 [] false C44_holds hq7_21 rfl rfl (K0 ?_))))
 obtain ⟨r1,hr1,q⟩ := bE q
 refine OL (AI f46_in (cV (cQ C46 ((([(1:Int)],[((ByteArray.mk #[100,101,110,115,101]),(1:Int),(0:Int))]),(1:Int),(2:Int),((1073741824:Int),(2147483648:Int),(0:Int)),q7_21,[(0:Int),(0:Int)]),(0:Int)) r1 [] true C46_holds hr1 rfl rfl (R3 (AI (fun _=>rfl) (R2 (AI TV (AI TV (OL (OL ?_))))))))))
 obtain ⟨r2,hr2,q⟩ := bE q
 refine OL (AI f44_in (cV (cQ C44 () r2 [] false C44_holds hr2 rfl rfl (K0 ?_))))
 obtain ⟨r3,hr3,q⟩ := bE q
 rcases r3 with r3a | r3b
 ·dsimp only [sumF] at q
  refine OL (AI f45_in (cV (cQ C45 (([(1:Int)],[((ByteArray.mk #[100,101,110,115,101]),(1:Int),(0:Int))]),(1:Int),(2:Int),((1073741824:Int),(2147483648:Int),(0:Int)),r2,[(0:Int),(0:Int)]) (Sum.inl r3a) [] false C45_holds hr3 rfl rfl (R2 (K0 ?_)))))
  obtain ⟨z4,hz4,q⟩ := bE q
  refine OQ ⟨[(1,⟨[(0,.dat .bool false)],[],0⟩)],?_,?_⟩
  ·have q := hz4
   clear hz4
   unfold f43_j1 at q
   refine OL (cN q (fun q=>?_) (fun q=>?_))
   ·refine gY (cF (cN q (fun q=>?_) (fun q=>?_)))
    ·refine gY (cF (gN (gN (gN (gN (cT (gN (gN (gN (gN (cT (cT (OL ?_)))))))))))))
     cases sE q
     refine E4 [] (R2 (AI TV TV))
    refine gN (cT (gN (gN (gN (gN (cT (gN (gN (gN (gN (cT (cT (OL ?_)))))))))))))
    cases sE q
    refine E4 [] (R2 (AI TV TV))
   refine gN (cT (gN (gN (cT (gN (gN (gN (gN (cT (gN (gN (gN (gN (cT (cT (OL ?_))))))))))))))))
   cases sE q
   refine E4 [] (R2 (AI TV TV))
  refine AI ?_ TV
  cases sE q
  refine AI rfl (E4 [] (R2 (AI TV TV)))
 dsimp only [sumF] at q
 refine OL (AI f45_in (cV (cQ C45 (([(1:Int)],[((ByteArray.mk #[100,101,110,115,101]),(1:Int),(0:Int))]),(1:Int),(2:Int),((1073741824:Int),(2147483648:Int),(0:Int)),r2,[(0:Int),(0:Int)]) (Sum.inr r3b) [] false C45_holds hr3 rfl rfl (R2 (K0 ?_)))))
 obtain ⟨z5,hz5,q⟩ := bE q
 refine OQ ⟨Sum.elim (fun z5a=>[(0,⟨[(3,P0 0 0)],[(0,.cells [(.d T1 r3b.1),(.d T8 r3b.2.1),(.d T2 r3b.2.2.1),(.d T2 r3b.2.2.2.1),(.d T2 r3b.2.2.2.2.1),(.d T2 r3b.2.2.2.2.2.1),(.d T2 r3b.2.2.2.2.2.2.1),(.d T11 r3b.2.2.2.2.2.2.2.1),(.d T1 r3b.2.2.2.2.2.2.2.2.1),(.osl 1),(.osl 2),(.d T2 (0:Int)),(.d T2 (0:Int)),(.d T4 (0:Int))]),(1,.arr 40 T2 r3b.2.2.2.2.2.2.2.2.2.1),(2,.arr 40 T2 r3b.2.2.2.2.2.2.2.2.2.2)],3⟩)]) (fun z5b=>[(1,⟨[(0,.dat .bool false)],[],0⟩)]) z5,?_,?_⟩
 ·have q := hz5
  clear hz5
  unfold f43_j2 at q
  refine OL (cN q (fun q=>?_) (fun q=>?_))
  ·refine gY (cF (cN q (fun q=>?_) (fun q=>?_)))
   ·refine gY (cF (gY (gY (gY (gY (cF (cN q (fun q=>?_) (fun q=>?_))))))))
    ·refine gY (gY (gY (cF (cI q (fun q=>?_) (fun q=>?_)))))
     ·cases sE q
      refine OL (E4 [] (R2 (AI TV TV)))
     cases sE q
     refine E4 [(0,some 11),(1,some 12),(2,some 13)] (AI rfl (AJ (R3 TV)))
    refine gN (gN (gN (cT (cT (OL ?_)))))
    cases sE q
    refine E4 [] (R2 (AI TV TV))
   refine gN (cT (gN (gN (gN (gN (cT (gN (gN (gN (gN (cT (cT (OL ?_)))))))))))))
   cases sE q
   refine E4 [] (R2 (AI TV TV))
  refine gN (cT (gN (gN (cT (gN (gN (gN (gN (cT (gN (gN (gN (gN (cT (cT (OL ?_))))))))))))))))
  cases sE q
  refine E4 [] (R2 (AI TV TV))
 rcases z5 with z5a | z5b
 ·dsimp only [sumF] at q
  refine AI (OL ?_) TV
  obtain ⟨r6,hr6,q⟩ := bE q
  refine OL (AI f51_in (cV (cQ C51 (r3b.1,r3b.2.1,r3b.2.2.1,r3b.2.2.2.1,r3b.2.2.2.2.1,r3b.2.2.2.2.2.1,r3b.2.2.2.2.2.2.1,r3b.2.2.2.2.2.2.2.1,r3b.2.2.2.2.2.2.2.2.1,r3b.2.2.2.2.2.2.2.2.2.1,r3b.2.2.2.2.2.2.2.2.2.2,(0:Int),(0:Int),(0:Int)) r6 I3 false C51_holds hr6 rfl rfl (AI NH (R2 (AJ (AI (R3 TV) (OL ?_))))))))
  obtain ⟨r7,hr7,q⟩ := bE q
  refine OL (AI f52_in (cV (cQ C52 (r6.2.1,r6.2.2.1,r6.2.2.2.1,r6.2.2.2.2.1,r6.2.2.2.2.2.1,r6.2.2.2.2.2.2.1,r6.2.2.2.2.2.2.2.1,r6.2.2.2.2.2.2.2.2.1,r6.2.2.2.2.2.2.2.2.2.1,r6.2.2.2.2.2.2.2.2.2.2.2.2.2.1,r6.2.2.2.2.2.2.2.2.2.2.2.2.2.2,r6.2.2.2.2.2.2.2.2.2.2.1,r6.2.2.2.2.2.2.2.2.2.2.2.1,r6.2.2.2.2.2.2.2.2.2.2.2.2.1) r7 [(0,some 0),(1,some 6),(2,some 7)] false C52_holds hr7 rfl rfl (AI NH (R2 (AJ (AI (R3 TV) (OL (OL (EI (.take 0 (.take 1 (.take 2 (.take 3 (.alt 4 (.take 5 (.take 6 (.take 7 (.take 8 (.alt 9 (.alt 10 (.alt 11 (.alt 12 (.take 13 (.take 14 (.take 15 (.take 16 (.take 17 (.take 18 (.take 19 (.take 20 (.take 21 .done))))))))) .done) .done) .done) .done))))) .done))))) (EI [] (EI [] (AI rfl (cI q (fun q=>?_) (fun q=>?_)))))))))))))))
  ·refine AI TV (gX ?_)
   obtain ⟨q7_4,hq7_4,q⟩ := bE q
   refine OL (AI f54_in (cV (cQ C54 (r7.2.2.1,r7.2.2.2.1,r7.2.2.2.2.1,r7.2.2.2.2.2.1,r7.2.2.2.2.2.2.1,r7.2.2.2.2.2.2.2.1,r7.2.2.2.2.2.2.2.2.1,r7.2.2.2.2.2.2.2.2.2.1,r7.2.2.2.2.2.2.2.2.2.2.1,r7.2.2.2.2.2.2.2.2.2.2.2.2.2.2.1,r7.2.2.2.2.2.2.2.2.2.2.2.2.2.2.2,r7.2.2.2.2.2.2.2.2.2.2.2.1,r7.2.2.2.2.2.2.2.2.2.2.2.2.1,r7.2.2.2.2.2.2.2.2.2.2.2.2.2.1) q7_4 [(0,some 0),(1,some 6),(2,some 7)] false C54_holds hq7_4 rfl rfl (AI NH (R2 (AJ (AI (R3 TV) (gX (cT (cI q (fun q=>?_) (fun q=>?_)))))))))))
   ·refine AI TV (gX ?_)
    obtain ⟨q7_9,hq7_9,q⟩ := bE q
    refine OL (AI f44_in (cV (cQ C44 () q7_9 [] false C44_holds hq7_9 rfl rfl (K0 (AI TV (gX ?_))))))
    obtain ⟨q7_10,hq7_10,q⟩ := bE q
    refine OL (AI f50_in (cV (cQ C50 (([(1:Int)],[((ByteArray.mk #[100,101,110,115,101]),(1:Int),(0:Int))]),(1:Int),(2:Int),((1073741824:Int),(2147483648:Int),(0:Int)),q7_9,[(0:Int),(0:Int)]) q7_10 [] false C50_holds hq7_10 rfl rfl (R2 (K0 (AI TV (gX ?_)))))))
    obtain ⟨q7_11,hq7_11,q⟩ := bE q
    refine OL (AI f89_in (cV (cQ C89 (((q7_10.1,q7_10.2.2.2.2.2.2.2.1),q7_10.2.1,q7_10.2.2.1,(q7_10.2.2.2.1,q7_10.2.2.2.2.1,q7_10.2.2.2.2.2.1),q7_10.2.2.2.2.2.2.2.2,q7_10.2.2.2.2.2.2.1),(1:Int)) q7_11 [] true C89_holds hq7_11 rfl rfl (R3 (AI (fun _=>rfl) (R2 (AI TV (AI TV (AI TV (gX ?_))))))))))
    obtain ⟨q7_12,hq7_12,q⟩ := bE q
    refine OL (AI f55_in (cV (cQ C55 ((r7.1,r7.2.1),(q7_11.1,q7_11.2)) q7_12 [] true C55_holds hq7_12 rfl rfl (R4 (AI (fun _=>rfl) (R2 (AI TV (AI TV (cT (cI q (fun q=>?_) (fun q=>?_)))))))))))
    ·refine gX (gX (gI q (fun q=>?_)))
     refine gX (gX (cT ?_))
     cases sE q
     refine AI rfl (E4 [] (R2 (AI TV TV)))
    refine gM (gM (gM (gM (cF ?_))))
    cases sE q
    refine AI rfl (E4 [] (R2 (AI TV TV)))
   refine AI TV (gM (AI TV (gM (AI TV (gM (AI TV (gM (cF (gM (gM (gM (gM (gM (cF ?_))))))))))))))
   cases sE q
   refine AI rfl (E4 [] (R2 (AI TV TV)))
  refine AI TV (gM (gM (cF (gM (AI TV (gM (AI TV (gM (AI TV (gM (AI TV (gM (cF (gM (gM (gM (gM (gM (cF ?_)))))))))))))))))))
  cases sE q
  refine AI rfl (E4 [] (R2 (AI TV TV)))
 dsimp only [sumF] at q
 refine AI ?_ TV
 cases sE q
 refine AI rfl (E4 [] (R2 (AI TV TV)))
theorem C43_holds : HP C43 43 := hH Tryz.f43 (by kernel_rfl) rfl (fun x y q=>C43_vc y q)
theorem f43_in : InP 43 := inP (by kernel_rfl)
def f9_j1 (r7 : List (LI×LI×Int)) : Option Int :=
 bindF (f45 (([(1:Int)],[((ByteArray.mk #[100,101,110,115,101]),(1:Int),(0:Int))]),(4:Int),(2:Int),((1073741824:Int),(2147483648:Int),(0:Int)),r7,[(0:Int),(0:Int)])) fun r15 =>
 sumF r15 (fun r15a =>
 some r15a) (fun r15b =>
 some (0:Int))
def f9 : Option Bool :=
 bindF (f43) fun r1 =>
 bif (!r1) then
 some false
 else
 bindF (f44) fun r7 =>
 bindF (f44) fun r8 =>
 bindF (f44) fun r9 =>
 bindF (f44) fun r10 =>
 bindF (f44) fun r11 =>
 guardF (0 ≤ (3:Int) ∧ (3:Int) < (List.length r10:Int)) <|
 bindF (f9_j1 r7) fun z14 =>
 bindF (f44) fun r18 =>
 bindF (f46 (([(1:Int)],[((ByteArray.mk #[100,101,110,115,101]),(1:Int),(0:Int))]),(1:Int),(2:Int),((1073741824:Int),(2147483648:Int),(0:Int)),r18,[(0:Int),(0:Int)]) (-1:Int)) fun r19 =>
 bindF (f46 (([(1:Int)],[((ByteArray.mk #[100,101,110,115,101]),(1:Int),(0:Int))]),(4:Int),(2:Int),((1073741824:Int),(2147483648:Int),(0:Int)),r7,[(0:Int),(0:Int)]) (99999:Int)) fun r21 =>
 bindF (f44) fun r24 =>
 bindF (f46 (([(1:Int)],[((ByteArray.mk #[100,101,110,115,101]),(1:Int),(0:Int))]),(1:Int),(2:Int),((1073741824:Int),(2147483648:Int),(0:Int)),r24,[(0:Int),(0:Int)]) (10001:Int)) fun r25 =>
 bindF (f47 (([(1:Int)],[((ByteArray.mk #[100,101,110,115,101]),(1:Int),(0:Int))]),(4:Int),(2:Int),((1073741824:Int),(2147483648:Int),(0:Int)),r7,[(0:Int),(0:Int)])) fun r26 =>
 bif (r26 == (1:Int)) then
 bindF (f47 (([(1:Int)],[((ByteArray.mk #[100,101,110,115,101]),(1:Int),(0:Int))]),(1:Int),(5:Int),((1073741824:Int),(2147483648:Int),(0:Int)),r8,[(0:Int),(0:Int)])) fun r27 =>
 bif (r27 == (1:Int)) then
 bindF (f47 (([(1:Int)],[((ByteArray.mk #[100,101,110,115,101]),(1:Int),(0:Int))]),(1:Int),(2:Int),((1073741824:Int),(2147483648:Int),(0:Int)),r9,[])) fun r28 =>
 bif (r28 == (1:Int)) then
 bindF (f47 (([(1:Int)],[((ByteArray.mk #[100,101,110,115,101]),(1:Int),(0:Int))]),(1:Int),(2:Int),((1073741824:Int),(2147483648:Int),(0:Int)),(List.set r10 (Int.toNat (3:Int)) ((rd (Ty.z T10) r10 (3:Int)).1,[],((rd (Ty.z T10) r10 (3:Int)).2).2)),[(0:Int),(0:Int)])) fun r29 =>
 bif (r29 == (1:Int)) then
 bindF (f47 (([(1:Int)],[((ByteArray.mk #[115,107,105,112]),(0:Int),(0:Int))]),(1:Int),(2:Int),((1073741824:Int),(2147483648:Int),(0:Int)),r11,[(0:Int),(0:Int)])) fun r30 =>
 bif (r30 == (4:Int)) then
 bif (z14 == (1:Int)) then
 bif (r19.1 == (1:Int)) then
 bif (r21.1 == (1:Int)) then
 bif (r25.1 == (1:Int)) then
 bindF (f44) fun r31 =>
 bindF (f47 (([(1:Int)],[((ByteArray.mk #[100,101,110,115,101]),(1:Int),(0:Int))]),(1:Int),(2:Int),((1073741824:Int),(2147483648:Int),(0:Int)),r31,[(0:Int),(0:Int)])) fun r32 =>
 some (r32 == (0:Int))
 else
 some false
 else
 some false
 else
 some false
 else
 some false
 else
 some false
 else
 some false
 else
 some false
 else
 some false
 else
 some false
def C9 : Con where
 X := Unit
 Y := Bool
 e := 0
 args x := []
 hin x := []
 F x := f9
 ret y := [.dat .bool y]
 hout y := []
 nout := 0
theorem C9_vc (y : Bool) (q : f9 = some y) : VC Tryz.f9 C9 () y := by
 unfold f9 at q
 refine OL (OL (OL ?_))
 obtain ⟨r1,hr1,q⟩ := bE q
 refine OL (AI f43_in (cV (cQ C43 () r1 [] false C43_holds hr1 rfl rfl (K0 (cI q (fun q=>?_) (fun q=>?_))))))
 ·cases sE q
  refine OL (AI rfl (E4 [] (R2 (AI TV TV))))
 refine OL ?_
 obtain ⟨r7,hr7,q⟩ := bE q
 refine OL (AI f44_in (cV (cQ C44 () r7 [] false C44_holds hr7 rfl rfl (K0 ?_))))
 obtain ⟨r8,hr8,q⟩ := bE q
 refine OL (AI f44_in (cV (cQ C44 () r8 [] false C44_holds hr8 rfl rfl (K0 ?_))))
 obtain ⟨r9,hr9,q⟩ := bE q
 refine OL (AI f44_in (cV (cQ C44 () r9 [] false C44_holds hr9 rfl rfl (K0 ?_))))
 obtain ⟨r10,hr10,q⟩ := bE q
 refine OL (AI f44_in (cV (cQ C44 () r10 [] false C44_holds hr10 rfl rfl (K0 ?_))))
 obtain ⟨r11,hr11,q⟩ := bE q
 refine OL (AI f44_in (cV (cQ C44 () r11 [] false C44_holds hr11 rfl rfl (K0 (OL (OL (OL (OL (OL (OL (OL (OL (OL (OL (OL (OL (gI q (fun q=>?_))))))))))))))))))
 refine OL (OL (OL (OL ?_)))
 obtain ⟨z14,hz14,q⟩ := bE q
 refine OQ ⟨[(0,⟨[(1,P0 0 0),(2,P0 1 0),(3,P0 2 0),(4,P0 3 0),(5,P0 4 0),(7,.dat T2 z14)],[(0,.cells [(.d T1 ([(1:Int)])),(.d T8 ([((ByteArray.mk #[100,101,110,115,101]),(1:Int),(0:Int))])),(.d T2 (4:Int)),(.d T2 (2:Int)),(.d T2 (1073741824:Int)),(.d T2 (2147483648:Int)),(.d T2 (0:Int)),(.d T11 r7),(.d T1 ([(0:Int),(0:Int)]))]),(1,.cells [(.osl 5),(.osl 6),(.d T2 (1:Int)),(.d T2 (5:Int)),(.d T2 (1073741824:Int)),(.d T2 (2147483648:Int)),(.d T2 (0:Int)),(.osl 7),(.osl 8)]),(2,.cells [(.osl 9),(.osl 10),(.d T2 (1:Int)),(.d T2 (2:Int)),(.d T2 (1073741824:Int)),(.d T2 (2147483648:Int)),(.d T2 (0:Int)),(.osl 11),N0]),(3,.cells [(.osl 12),(.osl 13),(.d T2 (1:Int)),(.d T2 (2:Int)),(.d T2 (1073741824:Int)),(.d T2 (2147483648:Int)),(.d T2 (0:Int)),(.osl 14),(.osl 15)]),(4,.cells [(.osl 16),(.osl 17),(.d T2 (1:Int)),(.d T2 (2:Int)),(.d T2 (1073741824:Int)),(.d T2 (2147483648:Int)),(.d T2 (0:Int)),(.osl 18),(.osl 19)]),(5,.arr 3 T2 ([(1:Int)])),(6,.arr 95 T6 ([((ByteArray.mk #[100,101,110,115,101]),(1:Int),(0:Int))])),(7,.arr 57 T10 r8),(8,.arr 40 T2 ([(0:Int),(0:Int)])),(9,.arr 3 T2 ([(1:Int)])),(10,.arr 95 T6 ([((ByteArray.mk #[100,101,110,115,101]),(1:Int),(0:Int))])),(11,.arr 57 T10 r9),(12,.arr 3 T2 ([(1:Int)])),(13,.arr 95 T6 ([((ByteArray.mk #[100,101,110,115,101]),(1:Int),(0:Int))])),(14,.arr 57 T10 (List.set r10 (Int.toNat (3:Int)) ((rd (Ty.z T10) r10 (3:Int)).1,[],((rd (Ty.z T10) r10 (3:Int)).2).2))),(15,.arr 40 T2 ([(0:Int),(0:Int)])),(16,.arr 3 T2 ([(1:Int)])),(17,.arr 95 T6 ([((ByteArray.mk #[115,107,105,112]),(0:Int),(0:Int))])),(18,.arr 57 T10 r11),(19,.arr 40 T2 ([(0:Int),(0:Int)]))],20⟩)],?_,?_⟩
 ·have q := hz14
  clear hz14
  unfold f9_j1 at q
  obtain ⟨r15,hr15,q⟩ := bE q
  rcases r15 with r15a | r15b
  ·dsimp only [sumF] at q
   refine OL (AI f45_in (cV (cQ C45 (([(1:Int)],[((ByteArray.mk #[100,101,110,115,101]),(1:Int),(0:Int))]),(4:Int),(2:Int),((1073741824:Int),(2147483648:Int),(0:Int)),r7,[(0:Int),(0:Int)]) (Sum.inl r15a) [] false C45_holds hr15 rfl rfl (R2 (K0 ?_)))))
   cases sE q
   refine E4 [(0,some 20),(1,some 21),(2,some 22),(3,some 23),(4,some 24),(5,some 4),(6,some 5),(7,some 6),(8,some 7),(9,some 8),(10,some 9),(11,some 10),(12,some 12),(13,some 13),(14,some 14),(15,some 15),(16,some 16),(17,some 25),(18,some 18),(19,some 19)] (R2 (AI (R5 TV) (R20 TV)))
  dsimp only [sumF] at q
  refine OL (AI f45_in (cV (cQ C45 (([(1:Int)],[((ByteArray.mk #[100,101,110,115,101]),(1:Int),(0:Int))]),(4:Int),(2:Int),((1073741824:Int),(2147483648:Int),(0:Int)),r7,[(0:Int),(0:Int)]) (Sum.inr r15b) [] false C45_holds hr15 rfl rfl (R2 (K0 ?_)))))
  cases sE q
  refine E4 [(0,some 20),(1,some 21),(2,some 22),(3,some 23),(4,some 24),(5,some 4),(6,some 5),(7,some 6),(8,some 7),(9,some 8),(10,some 9),(11,some 10),(12,some 12),(13,some 13),(14,some 14),(15,some 15),(16,some 16),(17,some 25),(18,some 18),(19,some 19)] (R2 (AI (R5 TV) (R20 TV)))
 refine AI (OL ?_) TV
 obtain ⟨r18,hr18,q⟩ := bE q
 refine OL (AI f44_in (cV (cQ C44 () r18 [] false C44_holds hr18 rfl rfl (K0 ?_))))
 obtain ⟨r19,hr19,q⟩ := bE q
 have hr19 : C46.F ((([(1:Int)],[((ByteArray.mk #[100,101,110,115,101]),(1:Int),(0:Int))]),(1:Int),(2:Int),((1073741824:Int),(2147483648:Int),(0:Int)),r18,[(0:Int),(0:Int)]),(-1:Int)) = some r19 := hr19
 refine OL (AI f46_in (cV (cQ C46 _ r19 [] true C46_holds hr19 rfl rfl (R3 (AI (fun _=>rfl) (R2 (AI TV (AI TV (OL (OL ?_))))))))))
 obtain ⟨r21,hr21,q⟩ := bE q
 refine OL (AI f46_in (cV (cQ C46 ((([(1:Int)],[((ByteArray.mk #[100,101,110,115,101]),(1:Int),(0:Int))]),(4:Int),(2:Int),((1073741824:Int),(2147483648:Int),(0:Int)),r7,[(0:Int),(0:Int)]),(99999:Int)) r21 [] false C46_holds hr21 rfl rfl (R3 (K0 (OL (OL ?_)))))))
 obtain ⟨r24,hr24,q⟩ := bE q
 refine OL (AI f44_in (cV (cQ C44 () r24 [] false C44_holds hr24 rfl rfl (K0 ?_))))
 obtain ⟨r25,hr25,q⟩ := bE q
 refine OL (AI f46_in (cV (cQ C46 ((([(1:Int)],[((ByteArray.mk #[100,101,110,115,101]),(1:Int),(0:Int))]),(1:Int),(2:Int),((1073741824:Int),(2147483648:Int),(0:Int)),r24,[(0:Int),(0:Int)]),(10001:Int)) r25 [] true C46_holds hr25 rfl rfl (R3 (AI (fun _=>rfl) (R2 (AI TV (AI TV (OL (OL ?_))))))))))
 obtain ⟨r26,hr26,q⟩ := bE q
 refine OL (AI f47_in (cV (cQ C47 (([(1:Int)],[((ByteArray.mk #[100,101,110,115,101]),(1:Int),(0:Int))]),(4:Int),(2:Int),((1073741824:Int),(2147483648:Int),(0:Int)),r7,[(0:Int),(0:Int)]) r26 [] false C47_holds hr26 rfl rfl (R2 (K0 (cI q (fun q=>?_) (fun q=>?_)))))))
 ·refine gX ?_
  obtain ⟨r27,hr27,q⟩ := bE q
  refine OL (AI f47_in (cV (cQ C47 (([(1:Int)],[((ByteArray.mk #[100,101,110,115,101]),(1:Int),(0:Int))]),(1:Int),(5:Int),((1073741824:Int),(2147483648:Int),(0:Int)),r8,[(0:Int),(0:Int)]) r27 [] true C47_holds hr27 rfl rfl (R2 (AI (fun _=>rfl) (R2 (AI TV (AI TV (gX (cT (cI q (fun q=>?_) (fun q=>?_))))))))))))
  ·refine gX ?_
   obtain ⟨r28,hr28,q⟩ := bE q
   refine OL (AI f47_in (cV (cQ C47 (([(1:Int)],[((ByteArray.mk #[100,101,110,115,101]),(1:Int),(0:Int))]),(1:Int),(2:Int),((1073741824:Int),(2147483648:Int),(0:Int)),r9,[]) r28 [] true C47_holds hr28 rfl rfl (R2 (AI (fun _=>rfl) (R2 (AI TV (AI TV (gX (cT (cI q (fun q=>?_) (fun q=>?_))))))))))))
   ·refine gX ?_
    obtain ⟨r29,hr29,q⟩ := bE q
    refine OL (AI f47_in (cV (cQ C47 (([(1:Int)],[((ByteArray.mk #[100,101,110,115,101]),(1:Int),(0:Int))]),(1:Int),(2:Int),((1073741824:Int),(2147483648:Int),(0:Int)),(List.set r10 (Int.toNat (3:Int)) ((rd (Ty.z T10) r10 (3:Int)).1,[],((rd (Ty.z T10) r10 (3:Int)).2).2)),[(0:Int),(0:Int)]) r29 [] true C47_holds hr29 rfl rfl (R2 (AI (fun _=>rfl) (R2 (AI TV (AI TV (gX (cT (cI q (fun q=>?_) (fun q=>?_))))))))))))
    ·refine gX ?_
     obtain ⟨r30,hr30,q⟩ := bE q
     refine OL (AI f47_in (cV (cQ C47 (([(1:Int)],[((ByteArray.mk #[115,107,105,112]),(0:Int),(0:Int))]),(1:Int),(2:Int),((1073741824:Int),(2147483648:Int),(0:Int)),r11,[(0:Int),(0:Int)]) r30 [] true C47_holds hr30 rfl rfl (R2 (AI (fun _=>rfl) (R2 (AI TV (AI TV (gX (cT (cI q (fun q=>?_) (fun q=>?_))))))))))))
     ·refine gX (cT (cI q (fun q=>?_) (fun q=>?_)))
      ·refine gX (cT (cI q (fun q=>?_) (fun q=>?_)))
       ·refine gX (cT (cI q (fun q=>?_) (fun q=>?_)))
        ·refine gX (cT (cI q (fun q=>?_) (fun q=>?_)))
         ·obtain ⟨r31,hr31,q⟩ := bE q
          refine OL (AI f44_in (cV (cQ C44 () r31 [] false C44_holds hr31 rfl rfl (K0 (gX ?_)))))
          obtain ⟨r32,hr32,q⟩ := bE q
          refine OL (AI f47_in (cV (cQ C47 (([(1:Int)],[((ByteArray.mk #[100,101,110,115,101]),(1:Int),(0:Int))]),(1:Int),(2:Int),((1073741824:Int),(2147483648:Int),(0:Int)),r31,[(0:Int),(0:Int)]) r32 [] true C47_holds hr32 rfl rfl (R2 (AI (fun _=>rfl) (R2 (AI TV (AI TV (gX (cT ?_))))))))))
          cases sE q
          refine AI rfl (E4 [] (R2 (AI TV TV)))
         refine gM (gM (cF ?_))
         cases sE q
         refine AI rfl (E4 [] (R2 (AI TV TV)))
        refine gM (cF (gM (gM (gM (cF ?_)))))
        cases sE q
        refine AI rfl (E4 [] (R2 (AI TV TV)))
       refine gM (cF (gM (gM (cF (gM (gM (gM (cF ?_))))))))
       cases sE q
       refine AI rfl (E4 [] (R2 (AI TV TV)))
      refine gM (cF (gM (gM (cF (gM (gM (cF (gM (gM (gM (cF ?_)))))))))))
      cases sE q
      refine AI rfl (E4 [] (R2 (AI TV TV)))
     refine gM (cF (gM (gM (cF (gM (gM (cF (gM (gM (cF (gM (gM (gM (cF ?_))))))))))))))
     cases sE q
     refine AI rfl (E4 [] (R2 (AI TV TV)))
    refine gM (gM (cF (gM (gM (cF (gM (gM (cF (gM (gM (cF (gM (gM (cF (gM (gM (gM (cF ?_))))))))))))))))))
    cases sE q
    refine AI rfl (E4 [] (R2 (AI TV TV)))
   refine gM (gM (cF (gM (gM (gM (cF (gM (gM (cF (gM (gM (cF (gM (gM (cF (gM (gM (cF (gM (gM (gM (cF ?_))))))))))))))))))))))
   cases sE q
   refine AI rfl (E4 [] (R2 (AI TV TV)))
  refine gM (gM (cF (gM (gM (gM (cF (gM (gM (gM (cF (gM (gM (cF (gM (gM (cF (gM (gM (cF (gM (gM (cF (gM (gM (gM (cF ?_))))))))))))))))))))))))))
  cases sE q
  refine AI rfl (E4 [] (R2 (AI TV TV)))
 refine gM (gM (cF (gM (gM (gM (cF (gM (gM (gM (cF (gM (gM (gM (cF (gM (gM (cF (gM (gM (cF (gM (gM (cF (gM (gM (cF (gM (gM (gM (cF ?_))))))))))))))))))))))))))))))
 cases sE q
 refine AI rfl (E4 [] (R2 (AI TV TV)))
theorem C9_holds : HP C9 9 := hH Tryz.f9 (by kernel_rfl) rfl (fun x y q=>C9_vc y q)
theorem f9_in : InP 9 := inP (by kernel_rfl)
end Go.Proofs
