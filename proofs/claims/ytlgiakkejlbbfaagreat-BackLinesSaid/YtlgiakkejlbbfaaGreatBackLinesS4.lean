import Derived.Test.YtlgiakkejlbbfaaGreatBackLinesS3
set_option linter.unusedVariables false
set_option maxRecDepth 100000
set_option maxHeartbeats 8000000
namespace Go.Proofs
open Go.AM
open IntKind (i64 u64 i32 u32 i16 u16 i8 u8)
def f6_j1 (x_ : LI) (k : LI) : Option (Sum Unit Unit) :=
 bif (decide ((List.length x_:Int) < (1:Int))) then
 some (Sum.inr ())
 else
 bif (decide ((List.length x_:Int) > (30:Int))) then
 some (Sum.inr ())
 else
 bif ((List.length k:Int) != (List.length x_:Int)) then
 some (Sum.inr ())
 else
 some (Sum.inl ())
def f6 (x_ : LI) (k : LI) : Option Bool :=
 bindF (f12) fun q11_29 =>
 bif (!q11_29) then
 some false
 else
 bindF (f6_j1 x_ k) fun z1 =>
 sumF z1 (fun z1a =>
 bindF (f13) fun r2 =>
 bindF (f15 x_) fun r3 =>
 bindF (f14 ([]) (r3.2,r3.1)) fun r4 =>
 bindF (f15 k) fun r5 =>
 bindF (f14 r4.2.2 (r5.2,r5.1)) fun r6 =>
 bindF (f17 r6.2.2 (4:Int) r4.1 r6.1 (0:Int)) fun r7 =>
 bindF (f17 r7.2.2 (9:Int) r7.1 (-1:Int) (0:Int)) fun r8 =>
 bindF (f16 r8.2.2 r8.1) fun r9 =>
 bif (r8.2.1 == (0:Int)) then
 bif (r9.1 == (0:Int)) then
 bif ((List.length r9.2.1:Int) == (4:Int)) then
 guardF (0 ≤ r4.1 ∧ r4.1 < (List.length r9.2.1:Int)) <|
 bindF (f15 k) fun q11_17 =>
 bindF (f19 ((rd (Ty.z T3) r9.2.1 r4.1).1,(rd (Ty.z T3) r9.2.1 r4.1).2) (q11_17.2,q11_17.1)) fun q11_18 =>
 bif q11_18 then
 guardF (0 ≤ r6.1 ∧ r6.1 < (List.length r9.2.1:Int)) <|
 bindF (f15 x_) fun q11_26 =>
 bindF (f19 ((rd (Ty.z T3) r9.2.1 r6.1).1,(rd (Ty.z T3) r9.2.1 r6.1).2) (q11_26.2,q11_26.1)) fun q11_27 =>
 some q11_27
 else
 some false
 else
 some false
 else
 some false
 else
 some false) (fun z1b =>
 some true)
def C6 : Con where
 X := LI×LI
 Y := Bool
 e := 0
 args x := [.dat T1 x.1,.dat T1 x.2]
 hin x := []
 F x := f6 x.1 x.2
 ret y := [.dat .bool y]
 hout y := []
 nout := 0
theorem C6_vc (x_ : LI) (k : LI) (y : Bool) (q : f6 x_ k = some y) : VC Tryz.f6 C6 (x_,k) y := by
 unfold f6 at q
 refine OL (OL (OL ?_))
 obtain ⟨q11_29,hq11_29,q⟩ := bE q
 refine OL (AI f12_in (cV (cQ C12 () q11_29 [] false C12_holds hq11_29 rfl rfl (K0 (cI q (fun q=>?_) (fun q=>?_))))))
 ·cases sE q
  refine OL (AI rfl (E4 [] (R2 (AI TV TV))))
 obtain ⟨z1,hz1,q⟩ := bE q
 refine OQ ⟨Sum.elim (fun z1a=>[(0,⟨[(0,.dat T1 x_),(1,.dat T1 k)],[],0⟩)]) (fun z1b=>[(1,⟨[(4,.dat .bool true)],[],0⟩)]) z1,?_,?_⟩
 ·have q := hz1
  clear hz1
  unfold f6_j1 at q
  refine OL (cN q (fun q=>?_) (fun q=>?_))
  ·refine gY (gY (cF (cN q (fun q=>?_) (fun q=>?_))))
   ·refine gY (gY (gY (gY (cF (cI q (fun q=>?_) (fun q=>?_))))))
    ·cases sE q
     refine OL (E4 [] (R2 (AI TV TV)))
    cases sE q
    refine E4 [] (R3 (AI TV TV))
   refine gN (gN (gN (gN (cT (cT (OL ?_))))))
   cases sE q
   refine E4 [] (R2 (AI TV TV))
  refine gN (gN (cT (gN (gN (gN (gN (gN (cT (cT (OL ?_))))))))))
  cases sE q
  refine E4 [] (R2 (AI TV TV))
 rcases z1 with z1a | z1b
 ·dsimp only [sumF] at q
  refine AI (OL ?_) TV
  obtain ⟨r2,hr2,q⟩ := bE q
  refine OL (AI f13_in (cV (cQ C13 () r2 [] false C13_holds hr2 rfl rfl (K0 (OL ?_)))))
  obtain ⟨r3,hr3,q⟩ := bE q
  refine OL (AI f15_in (cV (cQ C15 x_ r3 [] false C15_holds hr3 rfl rfl (AI rfl (K0 ?_)))))
  obtain ⟨r4,hr4,q⟩ := bE q
  refine OL (AI f14_in (cV (cQ C14 ([],(r3.2,r3.1)) r4 I2 false C14_holds hr4 rfl rfl (R2 (AI NH (R2 (AJ (AI (R2 TV) (OL ?_)))))))))
  obtain ⟨r5,hr5,q⟩ := bE q
  refine OL (AI f15_in (cV (cQ C15 k r5 [] false C15_holds hr5 rfl rfl (AI rfl (K0 ?_)))))
  obtain ⟨r6,hr6,q⟩ := bE q
  refine OL (AI f14_in (cV (cQ C14 (r4.2.2,(r5.2,r5.1)) r6 [(0,some 0),(1,some 5)] false C14_holds hr6 rfl rfl (R2 (AI NH (R2 (AJ (AI (R2 TV) (OL ?_)))))))))
  obtain ⟨r7,hr7,q⟩ := bE q
  refine OL (AI f17_in (cV (cQ C17 (r6.2.2,(4:Int),r4.1,r6.1,(0:Int)) r7 [(0,some 0),(1,some 9)] false C17_holds hr7 rfl rfl (R4 (AI NH (R2 (AJ (AI (R2 TV) (OL ?_)))))))))
  obtain ⟨r8,hr8,q⟩ := bE q
  have hr8 : C17.F (r7.2.2,(9:Int),r7.1,(-1:Int),(0:Int)) = some r8 := hr8
  refine OL (AI f17_in (cV (cQ C17 _ r8 [(0,some 0),(1,some 12)] false C17_holds hr8 rfl rfl (R4 (AI NH (R2 (AJ (AI (R2 TV) (OL ?_)))))))))
  obtain ⟨r9,hr9,q⟩ := bE q
  refine OL (AI f16_in (cV (cQ C16 (r8.2.2,r8.1) r9 [(0,some 0),(1,some 15)] false C16_holds hr9 rfl rfl (AI rfl (AI NH (R2 (AJ (AI (R2 TV) (OL (EI (.take 0 (.take 1 (.take 2 (.take 3 (.take 4 (.take 5 (.take 6 (.take 7 (.take 8 (.take 9 (.take 10 (.take 11 (.take 12 (.take 13 (.take 14 (.take 15 (.take 16 (.alt 17 (.alt 18 (.take 19 (.take 20 (.take 21 (.take 22 (.take 23 (.take 24 (.take 25 (.alt 26 (.alt 27 (.take 28 (.take 29 .done)) .done) .done)))))))) .done) .done)))))))))))))))))) (EI [] (EI [] (AI rfl (cI q (fun q=>?_) (fun q=>?_)))))))))))))))
  ·refine gX (cT (cI q (fun q=>?_) (fun q=>?_)))
   ·refine gX (gX (cT (cI q (fun q=>?_) (fun q=>?_))))
    ·refine gX (gX (gI q (fun q=>?_)))
     refine gX (gX (AI TV (gX ?_)))
     obtain ⟨q11_17,hq11_17,q⟩ := bE q
     refine OL (AI f15_in (cV (cQ C15 k q11_17 [] false C15_holds hq11_17 rfl rfl (AI rfl (K0 (AI TV (gX ?_)))))))
     obtain ⟨q11_18,hq11_18,q⟩ := bE q
     refine OL (AI f19_in (cV (cQ C19 (((rd (Ty.z T3) r9.2.1 r4.1).1,(rd (Ty.z T3) r9.2.1 r4.1).2),(q11_17.2,q11_17.1)) q11_18 [] true C19_holds hq11_18 rfl rfl (R4 (AI (fun _=>rfl) (R2 (AI TV (AI TV (cT (cI q (fun q=>?_) (fun q=>?_)))))))))))
     ·refine gX (gX (gI q (fun q=>?_)))
      refine gX (gX (AI TV (gX ?_)))
      obtain ⟨q11_26,hq11_26,q⟩ := bE q
      refine OL (AI f15_in (cV (cQ C15 x_ q11_26 [] false C15_holds hq11_26 rfl rfl (AI rfl (K0 (AI TV (gX ?_)))))))
      obtain ⟨q11_27,hq11_27,q⟩ := bE q
      refine OL (AI f19_in (cV (cQ C19 (((rd (Ty.z T3) r9.2.1 r6.1).1,(rd (Ty.z T3) r9.2.1 r6.1).2),(q11_26.2,q11_26.1)) q11_27 [] true C19_holds hq11_27 rfl rfl (R4 (AI (fun _=>rfl) (R2 (AI TV (AI TV (cT ?_)))))))))
      cases sE q
      refine AI rfl (E4 [] (R2 (AI TV TV)))
     refine gM (gM (gM (gM (AI TV (gM (AI TV (gM (cF ?_))))))))
     cases sE q
     refine AI rfl (E4 [] (R2 (AI TV TV)))
    refine gM (gM (gM (gM (AI TV (gM (AI TV (gM (cF (gM (gM (gM (gM (gM (AI TV (gM (AI TV (gM (cF ?_))))))))))))))))))
    cases sE q
    refine AI rfl (E4 [] (R2 (AI TV TV)))
   refine gM (gM (cF (gM (gM (gM (gM (gM (AI TV (gM (AI TV (gM (cF (gM (gM (gM (gM (gM (AI TV (gM (AI TV (gM (cF ?_))))))))))))))))))))))
   cases sE q
   refine AI rfl (E4 [] (R2 (AI TV TV)))
  refine gM (cF (gM (gM (gM (cF (gM (gM (gM (gM (gM (AI TV (gM (AI TV (gM (cF (gM (gM (gM (gM (gM (AI TV (gM (AI TV (gM (cF ?_)))))))))))))))))))))))))
  cases sE q
  refine AI rfl (E4 [] (R2 (AI TV TV)))
 dsimp only [sumF] at q
 refine AI ?_ TV
 cases sE q
 refine AI rfl (E4 [] (R2 (AI TV TV)))
theorem C6_holds : HP C6 6 := hH Tryz.f6 (by kernel_rfl) rfl (fun x y q=>C6_vc x.1 x.2 y q)
theorem f6_in : InP 6 := inP (by kernel_rfl)
end Go.Proofs
