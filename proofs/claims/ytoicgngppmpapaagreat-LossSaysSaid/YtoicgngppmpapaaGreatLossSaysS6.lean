import Derived.Test.YtoicgngppmpapaaGreatLossSaysS5
set_option linter.unusedVariables false
set_option maxRecDepth 100000
set_option maxHeartbeats 8000000
namespace Go.Proofs
open Go.AM
open IntKind (i64 u64 i32 u32 i16 u16 i8 u8)
def f3_j1 (l : LI) (want : LI) (kind:Int) : Option (Sum Unit Unit) :=
 bif (decide ((List.length l:Int) < (1:Int))) then
 some (Sum.inr ())
 else
 bif (decide ((List.length l:Int) > (60:Int))) then
 some (Sum.inr ())
 else
 bif (decide ((List.length want:Int) > (80:Int))) then
 some (Sum.inr ())
 else
 bif (decide (kind < (1:Int))) then
 some (Sum.inr ())
 else
 bif (decide (kind > (3:Int))) then
 some (Sum.inr ())
 else
 some (Sum.inl ())
def f3_j2 (want : LI) (class_:Int) (kind:Int) (r4 : Int×Int×NL) : Option (Int×Int×NL) :=
 bif (kind == (1:Int)) then
 bindF (f20 r4.2.2 r4.1 want) fun r11 =>
 some (r11.1,r11.2.1,r11.2.2)
 else
 bif (kind == (2:Int)) then
 bindF (f21 r4.2.2 r4.1 want) fun r12 =>
 some (r12.1,r12.2.1,r12.2.2)
 else
 bindF (f22 r4.2.2 r4.1 class_) fun r13 =>
 some (r13.1,r13.2.1,r13.2.2)
def f3_j3 (z10 : Int×Int×NL) (r14 : Int×Int×NL) : Option (Sum Unit Unit) :=
 bif (z10.2.1 != r14.2.1) then
 some (Sum.inr ())
 else
 bif (z10.1 != r14.1) then
 some (Sum.inr ())
 else
 some (Sum.inl ())
def f3_l4 (r14 : Int×Int×NL) (go : (Int×NL) → Option (Sum Unit NL)) (i:Int) (l2 : NL) : Option (Sum Unit NL) :=
 bif (decide (i < (List.length r14.2.2:Int))) then
 bindF (f24 l2 i) fun r19 =>
 bif (!r19.2.2.2.2.1) then
 some (Sum.inl ())
 else
 guardF (0 ≤ i ∧ i < (List.length r14.2.2:Int)) <|
 bif (r19.1 != ((rd (Ty.z T0) r14.2.2 i).1)) then
 some (Sum.inl ())
 else
 guardF (0 ≤ i ∧ i < (List.length r14.2.2:Int)) <|
 bif (r19.2.1 != (((rd (Ty.z T0) r14.2.2 i).2).1)) then
 some (Sum.inl ())
 else
 guardF (0 ≤ i ∧ i < (List.length r14.2.2:Int)) <|
 bif (r19.2.2.1 != ((((rd (Ty.z T0) r14.2.2 i).2).2).1)) then
 some (Sum.inl ())
 else
 guardF (0 ≤ i ∧ i < (List.length r14.2.2:Int)) <|
 bindF (f25 (r19.2.2.2.2.2.1,r19.2.2.2.2.2.2.1) ((((((rd (Ty.z T0) r14.2.2 i).2).2).2).2).1,(((((rd (Ty.z T0) r14.2.2 i).2).2).2).2).2)) fun q24_52 =>
 bif (!q24_52) then
 some (Sum.inl ())
 else
 go ((i64.wrap (i + (1:Int))),r19.2.2.2.2.2.2.2)
 else
 some (Sum.inr l2)
def f3 (l : LI) (want : LI) (class_:Int) (kind:Int) : Option Bool :=
 bindF (f15) fun q28_34 =>
 bif (!q28_34) then
 some false
 else
 bindF (f3_j1 l want kind) fun z1 =>
 sumF z1 (fun z1a =>
 bindF (f16) fun r2 =>
 bindF (f18 l) fun r3 =>
 bindF (f17 ([]) (r3.2,r3.1)) fun r4 =>
 bindF (f18 l) fun r5 =>
 bindF (f19 ([]) (r5.2,r5.1)) fun r6 =>
 bindF (f3_j2 want class_ kind r4) fun z10 =>
 bindF (f23 r6.2.2 kind r4.1 want class_) fun r14 =>
 bindF (f3_j3 z10 r14) fun z15 =>
 sumF z15 (fun z15a =>
 bif (z10.2.1 != (0:Int)) then
 some true
 else
 bindF (loopF (fun go x=>f3_l4 r14 go x.1 x.2) fuelN ((0:Int),z10.2.2)) fun z18 =>
 sumF z18 (fun z18a =>
 some false) (fun z18b =>
 bindF (f26 z18b z10.1) fun q24_54 =>
 bindF (f27 r14.2.2 r14.1) fun r20 =>
 bif (q24_54.1 == (0:Int)) then
 bif (r20.1 == (0:Int)) then
 bif ((List.length q24_54.2.1:Int) == (List.length r20.2.1:Int)) then
 bindF (f28 q24_54.2.2) fun q28_15 =>
 bif (q28_15.1 == (List.length r20.2.2:Int)) then
 guardF (0 ≤ r4.1 ∧ r4.1 < (List.length q24_54.2.1:Int)) <|
 guardF (0 ≤ r4.1 ∧ r4.1 < (List.length r20.2.1:Int)) <|
 bindF (f25 ((rd (Ty.z T3) q24_54.2.1 r4.1).1,(rd (Ty.z T3) q24_54.2.1 r4.1).2) ((rd (Ty.z T3) r20.2.1 r4.1).1,(rd (Ty.z T3) r20.2.1 r4.1).2)) fun q28_32 =>
 some q28_32
 else
 some false
 else
 some false
 else
 some false
 else
 some false)) (fun z15b =>
 some false)) (fun z1b =>
 some true)
def C3 : Con where
 X := LI×LI×Int×Int
 Y := Bool
 e := 0
 args x := [.dat T1 x.1,.dat T1 x.2.1,.dat T2 x.2.2.1,.dat T2 x.2.2.2]
 hin x := []
 F x := f3 x.1 x.2.1 x.2.2.1 x.2.2.2
 ret y := [.dat .bool y]
 hout y := []
 nout := 0
theorem C3_vc (l : LI) (want : LI) (class_:Int) (kind:Int) (y : Bool) (q : f3 l want class_ kind = some y) : VC Tryz.f3 C3 (l,want,class_,kind) y := by
 unfold f3 at q
 refine OL (OL (OL ?_))
 obtain ⟨q28_34,hq28_34,q⟩ := bE q
 refine OL (AI f15_in (cV (cQ C15 () q28_34 [] false C15_holds hq28_34 rfl rfl (K0 (cI q (fun q=>?_) (fun q=>?_))))))
 ·cases sE q
  refine OL (AI rfl (E4 [] (R2 (AI TV TV))))
 obtain ⟨z1,hz1,q⟩ := bE q
 refine OQ ⟨Sum.elim (fun z1a=>[(0,⟨[(0,.dat T1 l),(1,.dat T1 want),(2,.dat T2 class_),(3,.dat T2 kind)],[],0⟩)]) (fun z1b=>[(1,⟨[(8,.dat .bool true)],[],0⟩)]) z1,?_,?_⟩
 ·have q := hz1
  clear hz1
  unfold f3_j1 at q
  refine OL (cN q (fun q=>?_) (fun q=>?_))
  ·refine gY (gY (cF (cN q (fun q=>?_) (fun q=>?_))))
   ·refine gY (gY (cF (cN q (fun q=>?_) (fun q=>?_))))
    ·refine gY (cF (cN q (fun q=>?_) (fun q=>?_)))
     ·refine gY (cF (cI q (fun q=>?_) (fun q=>?_)))
      ·cases sE q
       refine OL (E4 [] (R2 (AI TV TV)))
      cases sE q
      refine E4 [] (R5 (AI TV TV))
     refine gN (cT (cT (OL ?_)))
     cases sE q
     refine E4 [] (R2 (AI TV TV))
    refine gN (cT (gN (gN (cT (cT (OL ?_))))))
    cases sE q
    refine E4 [] (R2 (AI TV TV))
   refine gN (gN (cT (gN (gN (cT (gN (gN (cT (cT (OL ?_))))))))))
   cases sE q
   refine E4 [] (R2 (AI TV TV))
  refine gN (gN (cT (gN (gN (gN (cT (gN (gN (cT (gN (gN (cT (cT (OL ?_))))))))))))))
  cases sE q
  refine E4 [] (R2 (AI TV TV))
 rcases z1 with z1a | z1b
 ·dsimp only [sumF] at q
  refine AI (OL ?_) TV
  obtain ⟨r2,hr2,q⟩ := bE q
  refine OL (AI f16_in (cV (cQ C16 () r2 [] false C16_holds hr2 rfl rfl (K0 (OL ?_)))))
  obtain ⟨r3,hr3,q⟩ := bE q
  refine OL (AI f18_in (cV (cQ C18 l r3 [] false C18_holds hr3 rfl rfl (AI rfl (K0 ?_)))))
  obtain ⟨r4,hr4,q⟩ := bE q
  refine OL (AI f17_in (cV (cQ C17 ([],(r3.2,r3.1)) r4 I2 false C17_holds hr4 rfl rfl (R2 (AI NH (R2 (AJ (AI (R2 TV) (OL ?_)))))))))
  obtain ⟨r5,hr5,q⟩ := bE q
  refine OL (AI f18_in (cV (cQ C18 l r5 [] false C18_holds hr5 rfl rfl (AI rfl (K0 ?_)))))
  obtain ⟨r6,hr6,q⟩ := bE q
  refine OL (AI f19_in (callVn [(2,0,45,T0)] (virtI rfl rfl (virt0 (cQ C19 ([],(r5.2,r5.1)) r6 [(0,some 2),(1,some 8)] false C19_holds hr6 rfl rfl (R2 (AI NH (R2 (AJ (AI (R2 TV) (OL ?_)))))))))))
  obtain ⟨z10,hz10,q⟩ := bE q
  refine OQ ⟨[(0,⟨[(1,.dat T1 want),(2,.dat T2 class_),(3,.dat T2 kind),(9,P0 0 0),(10,P0 1 0),(11,.dat T2 r4.1),(13,.dat T2 z10.1),(14,.dat T2 z10.2.1)],[(0,.cells [(.osl 2)]),(1,.cells [(.osl 3)]),(2,.arr 42 T0 z10.2.2),(3,.arr 45 T0 r6.2.2)],4⟩)],?_,?_⟩
  ·have q := hz10
   clear hz10
   unfold f3_j2 at q
   refine OL (OL (cI q (fun q=>?_) (fun q=>?_)))
   ·obtain ⟨r11,hr11,q⟩ := bE q
    refine OL (AI f20_in (cV (cQ C20 (r4.2.2,r4.1,want) r11 [(0,some 0),(1,some 6)] false C20_holds hr11 rfl rfl (R2 (AI NH (R2 (AJ (AI (R2 TV) ?_))))))))
    cases sE q
    refine E4 [(0,some 0),(1,some 2),(2,some 14),(3,some 11)] (R7 (AI (R2 TV) (R4 TV)))
   refine OL (cI q (fun q=>?_) (fun q=>?_))
   ·obtain ⟨r12,hr12,q⟩ := bE q
    refine OL (AI f21_in (cV (cQ C21 (r4.2.2,r4.1,want) r12 [(0,some 0),(1,some 6)] false C21_holds hr12 rfl rfl (R2 (AI NH (R2 (AJ (AI (R2 TV) ?_))))))))
    cases sE q
    refine E4 [(0,some 0),(1,some 2),(2,some 14),(3,some 11)] (R7 (AI (R2 TV) (R4 TV)))
   obtain ⟨r13,hr13,q⟩ := bE q
   refine OL (AI f22_in (cV (cQ C22 (r4.2.2,r4.1,class_) r13 [(0,some 0),(1,some 6)] false C22_holds hr13 rfl rfl (R2 (AI NH (R2 (AJ (AI (R2 TV) ?_))))))))
   cases sE q
   refine E4 [(0,some 0),(1,some 2),(2,some 14),(3,some 11)] (R7 (AI (R2 TV) (R4 TV)))
  refine AI (OL ?_) TV
  obtain ⟨r14,hr14,q⟩ := bE q
  refine OL (AI f23_in (cV (cQ C23 (r6.2.2,kind,r4.1,want,class_) r14 [(0,some 1),(1,some 3)] false C23_holds hr14 rfl rfl (R4 (AI NH (R2 (AJ (AI (R2 TV) ?_))))))))
  obtain ⟨z15,hz15,q⟩ := bE q
  refine OQ ⟨Sum.elim (fun z15a=>[(0,⟨[(9,P0 0 0),(10,P0 1 0),(11,.dat T2 r4.1),(13,.dat T2 z10.1),(14,.dat T2 z10.2.1),(15,.dat T2 r14.1)],[(0,.cells [(.osl 2)]),(1,.cells [(.osl 3)]),(2,.arr 42 T0 z10.2.2),(3,.arr 45 T0 r14.2.2)],4⟩)]) (fun z15b=>[(1,⟨[(8,.dat .bool false)],[],0⟩)]) z15,?_,?_⟩
  ·have q := hz15
   clear hz15
   unfold f3_j3 at q
   refine OL (cN q (fun q=>?_) (fun q=>?_))
   ·refine gY (gY (cF (cI q (fun q=>?_) (fun q=>?_))))
    ·cases sE q
     refine OL (E4 [] (R2 (AI TV TV)))
    cases sE q
    refine E4 [(0,some 0),(1,some 1),(2,some 2),(3,some 6)] (R5 (AI (R2 TV) (R4 TV)))
   refine gN (gN (cT (cT (OL ?_))))
   cases sE q
   refine E4 [] (R2 (AI TV TV))
  rcases z15 with z15a | z15b
  ·dsimp only [sumF] at q
   refine AI (OL (OL (cI q (fun q=>?_) (fun q=>?_)))) TV
   ·cases sE q
    refine OL (AI rfl (E4 [] (R2 (AI TV TV))))
   refine OL (OL ?_)
   obtain ⟨z18,hz18,q⟩ := bE q
   refine lI (Int×NL) (Sum Unit NL) (fun x=>⟨[(9,P0 0 0),(10,P0 1 0),(11,.dat T2 r4.1),(13,.dat T2 z10.1),(15,.dat T2 r14.1),(17,.dat T2 x.1)],[(0,.cells [(.osl 2)]),(1,.cells [(.osl 3)]),(2,.arr 42 T0 x.2),(3,.arr 45 T0 r14.2.2)],4⟩) (fun z=>Sum.elim (fun za=>[(1,⟨[(8,.dat .bool false)],[],0⟩)]) (fun zb=>[(3,⟨[(9,P0 0 0),(10,P0 1 0),(11,.dat T2 r4.1),(13,.dat T2 z10.1),(15,.dat T2 r14.1)],[(0,.cells [(.osl 2)]),(1,.cells [(.osl 3)]),(2,.arr 42 T0 zb),(3,.arr 45 T0 r14.2.2)],4⟩)]) z) (loopF (fun go x=>f3_l4 r14 go x.1 x.2)) fuelN ((0:Int),z10.2.2) z18 (AI hz18 (AI (E4 I4 (R5 (AI (R2 TV) (R4 TV)))) (AI (fun _ _ h=>lZ h) (AI (fun m=>curI (fun i=>fun l2 z q=>?_)) ?_))))
   ·have q : f3_l4 r14 (loopF (fun go x=>f3_l4 r14 go x.1 x.2) m) i l2 = some z := q
    unfold f3_l4 at q
    refine OL (OL (cI q (fun q=>?_) (fun q=>?_)))
    ·refine OL (OL ?_)
     obtain ⟨r19,hr19,q⟩ := bE q
     refine OL (AI f24_in (cV (cQ C24 (l2,i) r19 [(0,some 0),(1,some 2)] false C24_holds hr19 rfl rfl (AI rfl (AI NH (R2 (AJ (AI (R2 TV) (OL (OL (EI (.take 0 (.take 1 (.take 2 (.take 3 (.take 4 (.take 5 (.take 6 (.take 7 (.take 8 (.take 9 (.take 10 (.take 11 (.take 12 (.take 13 (.take 14 (.take 15 (.take 16 (.take 17 (.take 18 (.take 19 (.take 20 (.take 21 (.take 22 (.take 23 (.take 24 (.take 25 (.take 26 (.take 27 (.take 28 (.take 29 (.take 30 (.take 31 (.take 32 (.take 33 (.take 34 (.take 35 (.take 36 (.take 37 (.take 38 (.take 39 (.take 40 (.take 41 (.take 42 (.take 43 (.take 44 (.take 45 (.take 46 (.take 47 (.take 48 (.take 49 (.take 50 (.take 51 (.alt 52 (.take 53 (.take 54 .done)) .done))))))))))))))))))))))))))))))))))))))))))))))))))))) (EI [] (EI [] (AI rfl (cN q (fun q=>?_) (fun q=>?_))))))))))))))))
     ·refine gY (gY (gY (gY (gY (gY (gY (gI q (fun q=>?_))))))))
      refine gY (gY (gY (cF (cN q (fun q=>?_) (fun q=>?_)))))
      ·refine gY (gY (gY (gY (gY (gY (gY (gI q (fun q=>?_))))))))
       refine gY (gY (gY (cF (cN q (fun q=>?_) (fun q=>?_)))))
       ·refine gY (gY (gY (gY (gY (gY (gY (gI q (fun q=>?_))))))))
        refine gY (gY (gY (cF (cN q (fun q=>?_) (fun q=>?_)))))
        ·refine gY (gY (gY (gY (gY (gY (gY (gI q (fun q=>?_))))))))
         refine gY (gY (AI TV (gY ?_)))
         obtain ⟨q24_52,hq24_52,q⟩ := bE q
         refine OL (AI f25_in (cV (cQ C25 ((r19.2.2.2.2.2.1,r19.2.2.2.2.2.2.1),((((((rd (Ty.z T0) r14.2.2 i).2).2).2).2).1,(((((rd (Ty.z T0) r14.2.2 i).2).2).2).2).2)) q24_52 [] true C25_holds hq24_52 rfl rfl (R4 (AI (fun _=>rfl) (R2 (AI TV (AI TV (gY (cF (cI q (fun q=>?_) (fun q=>?_))))))))))))
         ·cases sE q
          refine OL (E4 [] (R2 (AI TV TV)))
         refine EI ((i64.wrap (i + (1:Int))),r19.2.2.2.2.2.2.2) (AI q (E4 I4 (R5 (AI (R2 TV) (R4 TV)))))
        refine gN (gN (gN (gN (gN (gN (gN (gN (gN (AI TV (gN (gN (cT (cT (OL ?_))))))))))))))
        cases sE q
        refine E4 [] (R2 (AI TV TV))
       refine gN (gN (gN (gN (gN (gN (gN (gN (gN (gN (cT (gN (gN (gN (gN (gN (gN (gN (gN (gN (gN (AI TV (gN (gN (cT (cT (OL ?_))))))))))))))))))))))))))
       cases sE q
       refine E4 [] (R2 (AI TV TV))
      refine gN (gN (gN (gN (gN (gN (gN (gN (gN (gN (cT (gN (gN (gN (gN (gN (gN (gN (gN (gN (gN (gN (cT (gN (gN (gN (gN (gN (gN (gN (gN (gN (gN (AI TV (gN (gN (cT (cT (OL ?_))))))))))))))))))))))))))))))))))))))
      cases sE q
      refine E4 [] (R2 (AI TV TV))
     refine gN (gN (gN (gN (gN (gN (gN (gN (gN (gN (cT (gN (gN (gN (gN (gN (gN (gN (gN (gN (gN (gN (cT (gN (gN (gN (gN (gN (gN (gN (gN (gN (gN (gN (cT (gN (gN (gN (gN (gN (gN (gN (gN (gN (gN (AI TV (gN (gN (cT (cT (OL ?_))))))))))))))))))))))))))))))))))))))))))))))))))
     cases sE q
     refine E4 [] (R2 (AI TV TV))
    cases sE q
    refine E4 I4 (R4 (AI (R2 TV) (R4 TV)))
   rcases z18 with z18a | z18b
   ·dsimp only [sumF] at q
    refine AI ?_ TV
    cases sE q
    refine AI rfl (E4 [] (R2 (AI TV TV)))
   dsimp only [sumF] at q
   refine AI (OL ?_) TV
   obtain ⟨q24_54,hq24_54,q⟩ := bE q
   refine OL (AI f26_in (cV (cQ C26 (z18b,z10.1) q24_54 [(0,some 0),(1,some 2)] false C26_holds hq24_54 rfl rfl (AI rfl (AI NH (R2 (AJ (AI (R2 TV) (OL ?_)))))))))
   obtain ⟨r20,hr20,q⟩ := bE q
   refine OL (AI f27_in (cV (cQ C27 (r14.2.2,r14.1) r20 [(0,some 1),(1,some 3)] false C27_holds hr20 rfl rfl (AI rfl (AI NH (R2 (AJ (AI (R2 TV) (OL (EI (.take 0 (.take 1 (.take 2 (.take 3 (.take 4 (.take 5 (.take 6 (.take 7 (.take 8 (.take 9 (.take 10 (.take 11 (.take 12 (.take 13 (.take 14 (.take 16 (.take 17 (.take 18 (.take 19 (.take 20 (.alt 15 (.take 21 (.take 22 (.take 23 (.take 24 (.take 25 (.take 26 (.take 27 (.take 28 (.take 29 (.take 30 (.take 31 (.alt 32 (.take 33 (.take 34 .done)) .done)))))))))))) .done))))))))))))))))))))) (EI [] (EI [] (AI rfl (cI q (fun q=>?_) (fun q=>?_)))))))))))))))
   ·refine gX (cT (cI q (fun q=>?_) (fun q=>?_)))
    ·refine gX (gX (gX (gX (cT (cI q (fun q=>?_) (fun q=>?_))))))
     ·refine gX (gX (gX (gX (gX (AI TV (gX ?_))))))
      obtain ⟨q28_15,hq28_15,q⟩ := bE q
      refine OL (AI f28_in (cV (cQ C28 q24_54.2.2 q28_15 [(0,some 0),(1,some 2)] false C28_holds hq28_15 rfl rfl (AI NH (R2 (AJ (AI (R2 TV) (gX (cT (cI q (fun q=>?_) (fun q=>?_)))))))))))
      ·refine gX (gX (gI q (fun q=>?_)))
       refine gX (gX (gX (gX (gI q (fun q=>?_)))))
       refine gX (AI TV (gX ?_))
       obtain ⟨q28_32,hq28_32,q⟩ := bE q
       refine OL (AI f25_in (cV (cQ C25 (((rd (Ty.z T3) q24_54.2.1 r4.1).1,(rd (Ty.z T3) q24_54.2.1 r4.1).2),((rd (Ty.z T3) r20.2.1 r4.1).1,(rd (Ty.z T3) r20.2.1 r4.1).2)) q28_32 [] false C25_holds hq28_32 rfl rfl (R4 (K0 (cT ?_))))))
       cases sE q
       refine AI rfl (E4 [] (R2 (AI TV TV)))
      refine gM (gM (gM (gM (gM (gM (gM (AI TV (gM (cF ?_)))))))))
      cases sE q
      refine AI rfl (E4 [] (R2 (AI TV TV)))
     refine gM (gM (gM (gM (gM (AI TV (gM (gM (cF (gM (gM (gM (gM (gM (gM (gM (gM (AI TV (gM (cF ?_)))))))))))))))))))
     cases sE q
     refine AI rfl (E4 [] (R2 (AI TV TV)))
    refine gM (gM (gM (gM (cF (gM (gM (gM (gM (gM (gM (AI TV (gM (gM (cF (gM (gM (gM (gM (gM (gM (gM (gM (AI TV (gM (cF ?_)))))))))))))))))))))))))
    cases sE q
    refine AI rfl (E4 [] (R2 (AI TV TV)))
   refine gM (cF (gM (gM (gM (gM (gM (cF (gM (gM (gM (gM (gM (gM (AI TV (gM (gM (cF (gM (gM (gM (gM (gM (gM (gM (gM (AI TV (gM (cF ?_))))))))))))))))))))))))))))
   cases sE q
   refine AI rfl (E4 [] (R2 (AI TV TV)))
  dsimp only [sumF] at q
  refine AI ?_ TV
  cases sE q
  refine AI rfl (E4 [] (R2 (AI TV TV)))
 dsimp only [sumF] at q
 refine AI ?_ TV
 cases sE q
 refine AI rfl (E4 [] (R2 (AI TV TV)))
theorem C3_holds : HP C3 3 := hH Tryz.f3 (by kernel_rfl) rfl (fun x y q=>C3_vc x.1 x.2.1 x.2.2.1 x.2.2.2 y q)
theorem f3_in : InP 3 := inP (by kernel_rfl)
end Go.Proofs
