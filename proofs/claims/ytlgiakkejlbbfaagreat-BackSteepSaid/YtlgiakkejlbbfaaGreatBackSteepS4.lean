import Derived.Test.YtlgiakkejlbbfaaGreatBackSteepS3
set_option linter.unusedVariables false
set_option maxRecDepth 100000
set_option maxHeartbeats 8000000
namespace Go.Proofs
open Go.AM
open IntKind (i64 u64 i32 u32 i16 u16 i8 u8)
def f8_j1 (x_ : LI) (k : LI) (at_:Int) : Option (Sum Unit Unit) :=
 bif (decide ((List.length x_:Int) < (1:Int))) then
 some (Sum.inr ())
 else
 bif (decide ((List.length x_:Int) > (20:Int))) then
 some (Sum.inr ())
 else
 bif ((List.length k:Int) != (List.length x_:Int)) then
 some (Sum.inr ())
 else
 bif (decide (at_ < (0:Int))) then
 some (Sum.inr ())
 else
 bif (decide (at_ ≥ (List.length x_:Int))) then
 some (Sum.inr ())
 else
 some (Sum.inl ())
def f8_j45 (at_:Int) (i:Int) (q_:Int) : Option Bool :=
 bif (i == (1:Int)) then
 some (q_ == at_)
 else
 some false
def f8_j44 (x_ : LI) (at_:Int) (i:Int) (q_:Int) : Option Int :=
 bindF (f8_j45 at_ i q_) fun z75 =>
 bif z75 then
 some (i64.wrap ((i64.wrap ((i64.wrap (rd (0:Int) x_ q_)) * (4294967296:Int))) + (4294967296:Int)))
 else
 some (i64.wrap ((i64.wrap (rd (0:Int) x_ q_)) * (4294967296:Int)))
def f8_l42 (x_ : LI) (k : LI) (at_:Int) (i:Int) (go : (Int×LI×LI) → Option (LI×LI)) (q_:Int) (l1 : LI) (l2 : LI) : Option (LI×LI) :=
 bif (decide (q_ < (List.length x_:Int))) then
 guardF (0 ≤ q_ ∧ q_ < (List.length x_:Int)) <|
 bindF (f8_j44 x_ at_ i q_) fun z74 =>
 guardF ((List.length l1 + List.length ([z74])) * 8 ≤ 140737488355328) <|
 guardF (0 ≤ q_ ∧ q_ < (List.length k:Int)) <|
 guardF ((List.length l2 + List.length ([(i64.wrap ((i64.wrap (rd (0:Int) k q_)) * (4294967296:Int)))])) * 8 ≤ 140737488355328) <|
 go ((i64.wrap (q_ + (1:Int))),(l1 ++ ([z74])),(l2 ++ ([(i64.wrap ((i64.wrap (rd (0:Int) k q_)) * (4294967296:Int)))])))
 else
 some (l1,l2)
def f8_j46 (r83 : Int×(List (LI×LI))×NL) (r84 : Bool×LI×LI×NL) : Option (Sum Unit Unit) :=
 bif (r83.1 != (0:Int)) then
 some (Sum.inr ())
 else
 bif (!r84.1) then
 some (Sum.inr ())
 else
 bif ((List.length r83.2.1:Int) != (4:Int)) then
 some (Sum.inr ())
 else
 some (Sum.inl ())
def f8_l35 (x_ : LI) (k : LI) (at_:Int) (go : (Int×Int×Int×Int) → Option (Sum Unit (Int×Int×Int))) (slope:Int) (i:Int) (c0_0:Int) (c0_1:Int) : Option (Sum Unit (Int×Int×Int)) :=
 bif (decide (i < (2:Int))) then
 bindF (loopF (fun go x=>f8_l42 x_ k at_ i go x.1 x.2.1 x.2.2) fuelN ((0:Int),[],[])) fun z72 =>
 bindF (f13) fun r76 =>
 bindF (f15 z72.1) fun r77 =>
 bindF (f14 ([]) (r77.2,r77.1)) fun r78 =>
 bindF (f15 z72.2) fun r79 =>
 bindF (f14 r78.2.2 (r79.2,r79.1)) fun r80 =>
 bindF (f17 r80.2.2 (4:Int) r78.1 r80.1 (0:Int)) fun r81 =>
 bindF (f17 r81.2.2 (9:Int) r81.1 (-1:Int) (0:Int)) fun r82 =>
 bindF (f16 r82.2.2 r82.1) fun r83 =>
 bindF (f26 r83.2.2 r82.1) fun r84 =>
 bindF (f8_j46 r83 r84) fun z85 =>
 sumF z85 (fun z85a =>
 guardF (0 ≤ (0:Int) ∧ (0:Int) < (List.length r84.2.2.1:Int)) <|
 guardF (0 ≤ i ∧ i < (2:Int)) <|
 pickF i
 [(guardF (0 ≤ r78.1 ∧ r78.1 < (List.length r83.2.1:Int)) <|
 guardF (0 ≤ at_ ∧ at_ < (List.length ((rd (Ty.z T3) r83.2.1 r78.1).2):Int)) <|
 go ((rd (0:Int) ((rd (Ty.z T3) r83.2.1 r78.1).2) at_),(i64.wrap (i + (1:Int))),(rd (0:Int) r84.2.2.1 (0:Int)),c0_1)),
 (guardF (0 ≤ r78.1 ∧ r78.1 < (List.length r83.2.1:Int)) <|
 guardF (0 ≤ at_ ∧ at_ < (List.length ((rd (Ty.z T3) r83.2.1 r78.1).2):Int)) <|
 go ((rd (0:Int) ((rd (Ty.z T3) r83.2.1 r78.1).2) at_),(i64.wrap (i + (1:Int))),c0_0,(rd (0:Int) r84.2.2.1 (0:Int))))]) (fun z85b =>
 some (Sum.inl ()))
 else
 some (Sum.inr (slope,c0_0,c0_1))
def f8_j47 (z65b : Int×Int×Int) : Option Bool :=
 bif (decide (z65b.2.1 > (4611686018427387904:Int))) then
 some true
 else
 bif (decide (z65b.2.1 < (-4611686018427387904:Int))) then
 some true
 else
 bif (decide (z65b.2.2 > (4611686018427387904:Int))) then
 some true
 else
 some (decide (z65b.2.2 < (-4611686018427387904:Int)))
def f8 (x_ : LI) (k : LI) (at_:Int) : Option Bool :=
 bindF (f12) fun r1 =>
 bif (!r1) then
 some false
 else
 bindF (f8_j1 x_ k at_) fun z2 =>
 sumF z2 (fun z2a =>
 bindF (loopF (fun go x=>f8_l35 x_ k at_ go x.1 x.2.1 x.2.2.1 x.2.2.2) fuelN ((0:Int),(0:Int),(0:Int),(0:Int))) fun z65 =>
 sumF z65 (fun z65a =>
 some false) (fun z65b =>
 bindF (f8_j47 z65b) fun z87 =>
 bif z87 then
 some true
 else
 some ((i64.wrap (z65b.2.2 - z65b.2.1)) == z65b.1))) (fun z2b =>
 some true)
def C8 : Con where
 X := LI×LI×Int
 Y := Bool
 e := 0
 args x := [.dat T6 x.1,.dat T6 x.2.1,.dat T2 x.2.2]
 hin x := []
 F x := f8 x.1 x.2.1 x.2.2
 ret y := [.dat .bool y]
 hout y := []
 nout := 0
theorem C8_vc (x_ : LI) (k : LI) (at_:Int) (y : Bool) (q : f8 x_ k at_ = some y) : VC Tryz.f8 C8 (x_,k,at_) y := by
 unfold f8 at q
 refine OL (OL (OL ?_))
 obtain ⟨r1,hr1,q⟩ := bE q
 refine OL (AI f12_in (cV (cQ C12 () r1 [] false C12_holds hr1 rfl rfl (K0 (cI q (fun q=>?_) (fun q=>?_))))))
 ·cases sE q
  refine OL (AI rfl (E4 [] (R2 (AI TV TV))))
 obtain ⟨z2,hz2,q⟩ := bE q
 refine OQ ⟨Sum.elim (fun z2a=>[(0,⟨[(0,.dat T6 x_),(1,.dat T6 k),(2,.dat T2 at_)],[],0⟩)]) (fun z2b=>[(1,⟨[(6,.dat .bool true)],[],0⟩)]) z2,?_,?_⟩
 ·have q := hz2
  clear hz2
  unfold f8_j1 at q
  refine OL (cN q (fun q=>?_) (fun q=>?_))
  ·refine gY (gY (cF (cN q (fun q=>?_) (fun q=>?_))))
   ·refine gY (gY (gY (gY (cF (cN q (fun q=>?_) (fun q=>?_))))))
    ·refine gY (cF (cN q (fun q=>?_) (fun q=>?_)))
     ·refine gY (gY (gY (cF (cI q (fun q=>?_) (fun q=>?_)))))
      ·cases sE q
       refine OL (E4 [] (R2 (AI TV TV)))
      cases sE q
      refine E4 [] (R4 (AI TV TV))
     refine gN (gN (gN (cT (cT (OL ?_)))))
     cases sE q
     refine E4 [] (R2 (AI TV TV))
    refine gN (cT (gN (gN (gN (gN (cT (cT (OL ?_))))))))
    cases sE q
    refine E4 [] (R2 (AI TV TV))
   refine gN (gN (gN (gN (cT (gN (gN (cT (gN (gN (gN (gN (cT (cT (OL ?_))))))))))))))
   cases sE q
   refine E4 [] (R2 (AI TV TV))
  refine gN (gN (cT (gN (gN (gN (gN (gN (cT (gN (gN (cT (gN (gN (gN (gN (cT (cT (OL ?_))))))))))))))))))
  cases sE q
  refine E4 [] (R2 (AI TV TV))
 rcases z2 with z2a | z2b
 ·dsimp only [sumF] at q
  refine AI (OL (OL (OL (OL (OL ?_))))) TV
  obtain ⟨z65,hz65,q⟩ := bE q
  refine lI (Int×Int×Int×Int) (Sum Unit (Int×Int×Int)) (fun x=>⟨[(0,.dat T6 x_),(1,.dat T6 k),(2,.dat T2 at_),(7,P0 0 0),(8,.dat T2 x.1),(9,.dat T2 x.2.1)],[(0,.cells [(.d T2 x.2.2.1),(.d T2 x.2.2.2)])],1⟩) (fun z=>Sum.elim (fun za=>[(1,⟨[(6,.dat .bool false)],[],0⟩)]) (fun zb=>[(2,⟨[(7,P0 0 0),(8,.dat T2 zb.1)],[(0,.cells [(.d T2 zb.2.1),(.d T2 zb.2.2)])],1⟩)]) z) (loopF (fun go x=>f8_l35 x_ k at_ go x.1 x.2.1 x.2.2.1 x.2.2.2)) fuelN ((0:Int),(0:Int),(0:Int),(0:Int)) z65 (AI hz65 (AI (E4 [(0,some 0)] (R6 (AJ (AI rfl TV)))) (AI (fun _ _ h=>lZ h) (AI (fun m=>curI (fun slope=>curI (fun i=>curI (fun c0_0=>fun c0_1 z q=>?_)))) ?_))))
  ·have q : f8_l35 x_ k at_ (loopF (fun go x=>f8_l35 x_ k at_ go x.1 x.2.1 x.2.2.1 x.2.2.2) m) slope i c0_0 c0_1 = some z := q
   unfold f8_l35 at q
   refine OL (OL (cI q (fun q=>?_) (fun q=>?_)))
   ·refine OL (OL (OL (OL ?_)))
    obtain ⟨z72,hz72,q⟩ := bE q
    refine lI (Int×LI×LI) (LI×LI) (fun x=>⟨[(0,.dat T6 x_),(1,.dat T6 k),(2,.dat T2 at_),(7,P0 0 0),(9,.dat T2 i),(10,O0 1),(11,O0 2),(12,.dat T2 x.1)],[(0,.cells [(.d T2 c0_0),(.d T2 c0_1)]),(1,.arr 33 T2 x.2.1),(2,.arr 33 T2 x.2.2)],3⟩) (fun z=>[(4,⟨[(0,.dat T6 x_),(1,.dat T6 k),(2,.dat T2 at_),(7,P0 0 0),(9,.dat T2 i),(10,O0 1),(11,O0 2)],[(0,.cells [(.d T2 c0_0),(.d T2 c0_1)]),(1,.arr 33 T2 z.1),(2,.arr 33 T2 z.2)],3⟩)]) (loopF (fun go x=>f8_l42 x_ k at_ i go x.1 x.2.1 x.2.2)) fuelN ((0:Int),[],[]) z72 (AI hz72 (AI (E4 [(0,some 0),(1,none),(2,none)] (R6 (AI (R3 TV) (R3 TV)))) (AI (fun _ _ h=>lZ h) (AI (fun m=>curI (fun q_=>curI (fun l1=>fun l2 z q=>?_))) ?_))))
    ·have q : f8_l42 x_ k at_ i (loopF (fun go x=>f8_l42 x_ k at_ i go x.1 x.2.1 x.2.2) m) q_ l1 l2 = some z := q
     unfold f8_l42 at q
     refine OL (OL (cI q (fun q=>?_) (fun q=>?_)))
     ·refine OL (OL (gI q (fun q=>?_)))
      obtain ⟨z74,hz74,q⟩ := bE q
      refine OQ ⟨[(0,⟨[(0,.dat T6 x_),(1,.dat T6 k),(2,.dat T2 at_),(7,P0 0 0),(9,.dat T2 i),(10,O0 1),(11,O0 2),(12,.dat T2 q_),(13,.dat T2 z74)],[(0,.cells [(.d T2 c0_0),(.d T2 c0_1)]),(1,.arr 33 T2 l1),(2,.arr 33 T2 l2)],3⟩)],?_,?_⟩
      ·have q := hz74
       clear hz74
       unfold f8_j44 at q
       obtain ⟨z75,hz75,q⟩ := bE q
       refine OQ ⟨[(0,⟨[(0,.dat T6 x_),(1,.dat T6 k),(2,.dat T2 at_),(7,P0 0 0),(9,.dat T2 i),(10,O0 1),(11,O0 2),(12,.dat T2 q_),(13,.dat T2 (i64.wrap ((i64.wrap (rd (0:Int) x_ q_)) * (4294967296:Int)))),(78,.dat .bool z75)],[(0,.cells [(.d T2 c0_0),(.d T2 c0_1)]),(1,.arr 33 T2 l1),(2,.arr 33 T2 l2)],3⟩)],?_,?_⟩
       ·have q := hz75
        clear hz75
        unfold f8_j45 at q
        refine cI q (fun q=>?_) (fun q=>?_)
        ·refine gX (gX (cT ?_))
         cases sE q
         refine E4 I3 (R8 (AI (R3 TV) (R3 TV)))
        refine gM (gM (cF ?_))
        cases sE q
        refine E4 I3 (R8 (AI (R3 TV) (R3 TV)))
       refine AI (cI q (fun q=>?_) (fun q=>?_)) TV
       ·cases sE q
        refine E4 I3 (R7 (AI (R3 TV) (R3 TV)))
       cases sE q
       refine E4 I3 (R7 (AI (R3 TV) (R3 TV)))
      refine AI (OL (OL (OL (gI q (fun q=>?_))))) TV
      refine gI q (fun q=>?_)
      refine OL (OL (gI q (fun q=>?_)))
      refine EI ((i64.wrap (q_ + (1:Int))),(l1 ++ ([z74])),(l2 ++ ([(i64.wrap ((i64.wrap (rd (0:Int) k q_)) * (4294967296:Int)))]))) (AI q (E4 [(0,some 0),(1,some 4),(2,some 6)] (R6 (AI (R3 TV) (R3 TV)))))
     cases sE q
     refine E4 I3 (R5 (AI (R3 TV) (R3 TV)))
    refine AI (OL ?_) TV
    obtain ⟨r76,hr76,q⟩ := bE q
    refine OL (AI f13_in (cV (cQ C13 () r76 [] false C13_holds hr76 rfl rfl (K0 (OL ?_)))))
    obtain ⟨r77,hr77,q⟩ := bE q
    refine OL (AI f15_in (cV (cQ C15 z72.1 r77 [] false C15_holds hr77 rfl rfl (AI rfl (K0 ?_)))))
    obtain ⟨r78,hr78,q⟩ := bE q
    refine OL (AI f14_in (cV (cQ C14 ([],(r77.2,r77.1)) r78 [(0,some 3),(1,some 4)] false C14_holds hr78 rfl rfl (R2 (AI NH (R2 (AJ (AI (R2 TV) (OL ?_)))))))))
    obtain ⟨r79,hr79,q⟩ := bE q
    refine OL (AI f15_in (cV (cQ C15 z72.2 r79 [] false C15_holds hr79 rfl rfl (AI rfl (K0 ?_)))))
    obtain ⟨r80,hr80,q⟩ := bE q
    refine OL (AI f14_in (cV (cQ C14 (r78.2.2,(r79.2,r79.1)) r80 [(0,some 3),(1,some 8)] false C14_holds hr80 rfl rfl (R2 (AI NH (R2 (AJ (AI (R2 TV) (OL ?_)))))))))
    obtain ⟨r81,hr81,q⟩ := bE q
    refine OL (AI f17_in (cV (cQ C17 (r80.2.2,(4:Int),r78.1,r80.1,(0:Int)) r81 [(0,some 3),(1,some 12)] false C17_holds hr81 rfl rfl (R4 (AI NH (R2 (AJ (AI (R2 TV) (OL ?_)))))))))
    obtain ⟨r82,hr82,q⟩ := bE q
    have hr82 : C17.F (r81.2.2,(9:Int),r81.1,(-1:Int),(0:Int)) = some r82 := hr82
    refine OL (AI f17_in (cV (cQ C17 _ r82 [(0,some 3),(1,some 15)] false C17_holds hr82 rfl rfl (R4 (AI NH (R2 (AJ (AI (R2 TV) (OL ?_)))))))))
    obtain ⟨r83,hr83,q⟩ := bE q
    refine OL (AI f16_in (cV (cQ C16 (r82.2.2,r82.1) r83 [(0,some 3),(1,some 18)] false C16_holds hr83 rfl rfl (AI rfl (AI NH (R2 (AJ (AI (R2 TV) (OL ?_)))))))))
    obtain ⟨r84,hr84,q⟩ := bE q
    refine OL (AI f26_in (cV (cQ C26 (r83.2.2,r82.1) r84 [(0,some 3),(1,some 18)] false C26_holds hr84 rfl rfl (AI rfl (AI NH (R2 (AJ (AI (R2 TV) (OL ?_)))))))))
    obtain ⟨z85,hz85,q⟩ := bE q
    refine OQ ⟨Sum.elim (fun z85a=>[(0,⟨[(0,.dat T6 x_),(1,.dat T6 k),(2,.dat T2 at_),(7,P0 0 0),(9,.dat T2 i),(15,.dat T2 r78.1),(23,O0 1),(25,P0 2 0)],[(0,.cells [(.d T2 c0_0),(.d T2 c0_1)]),(1,.arr 31 T3 r83.2.1),(2,.cells [(.osl 3),(.osl 4)]),(3,.arr 3 T2 r84.2.1),(4,.arr 33 T2 r84.2.2.1)],5⟩)]) (fun z85b=>[(1,⟨[(6,.dat .bool false)],[],0⟩)]) z85,?_,?_⟩
    ·have q := hz85
     clear hz85
     unfold f8_j46 at q
     refine OL (cN q (fun q=>?_) (fun q=>?_))
     ·refine gY (cF (cN q (fun q=>?_) (fun q=>?_)))
      ·refine gY (gY (cF (cI q (fun q=>?_) (fun q=>?_))))
       ·cases sE q
        refine OL (E4 [] (R2 (AI TV TV)))
       cases sE q
       refine E4 [(0,some 0),(1,some 21),(2,some 26),(3,some 24),(4,some 25)] (R6 (AI (R3 TV) (R5 TV)))
      refine gN (gN (cT (cT (OL ?_))))
      cases sE q
      refine E4 [] (R2 (AI TV TV))
     refine gN (cT (gN (gN (gN (cT (cT (OL ?_)))))))
     cases sE q
     refine E4 [] (R2 (AI TV TV))
    rcases z85 with z85a | z85b
    ·dsimp only [sumF] at q
     refine AI (OL (gI q (fun q=>?_))) TV
     refine gI q (fun q=>?_)
     refine AI (fun hk86=>?_) ?_
     ·have q := pickE q hk86
      dsimp only [nthO] at q
      refine OL (gI q (fun q=>?_))
      refine gI q (fun q=>?_)
      refine EI ((rd (0:Int) ((rd (Ty.z T3) r83.2.1 r78.1).2) at_),(i64.wrap (i + (1:Int))),(rd (0:Int) r84.2.2.1 (0:Int)),c0_1) (AI q (E4 [(0,some 0)] (R6 (AJ (AI rfl TV)))))
     refine AI (fun hk86=>?_) TV
     have q := pickE q hk86
     dsimp only [nthO] at q
     refine OL (gI q (fun q=>?_))
     refine gI q (fun q=>?_)
     refine EI ((rd (0:Int) ((rd (Ty.z T3) r83.2.1 r78.1).2) at_),(i64.wrap (i + (1:Int))),c0_0,(rd (0:Int) r84.2.2.1 (0:Int))) (AI q (E4 [(0,some 0)] (R6 (AJ (AI rfl TV)))))
    dsimp only [sumF] at q
    refine AI ?_ TV
    cases sE q
    refine E4 [] (R2 (AI TV TV))
   cases sE q
   refine E4 [(0,some 0)] (R2 (AJ (AI rfl TV)))
  rcases z65 with z65a | z65b
  ·dsimp only [sumF] at q
   refine AI ?_ TV
   cases sE q
   refine AI rfl (E4 [] (R2 (AI TV TV)))
  dsimp only [sumF] at q
  refine AI ?_ TV
  obtain ⟨z87,hz87,q⟩ := bE q
  refine OQ ⟨[(0,⟨[(7,P0 0 0),(8,.dat T2 z65b.1),(27,.dat .bool z87)],[(0,.cells [(.d T2 z65b.2.1),(.d T2 z65b.2.2)])],1⟩)],?_,?_⟩
  ·have q := hz87
   clear hz87
   unfold f8_j47 at q
   refine AI (by decide) (AI (fun _=>?_) (AI (fun h=>absurd h (by decide)) TV))
   refine cN q (fun q=>?_) (fun q=>?_)
   ·refine AI (by decide) (AI (fun _=>?_) (AI (fun h=>absurd h (by decide)) TV))
    refine gY (gY (cF (cN q (fun q=>?_) (fun q=>?_))))
    ·refine AI (by decide) (AI (fun h=>absurd h (by decide)) ?_)
     refine AI (fun _=>?_) TV
     refine gY (gY (cF (cN q (fun q=>?_) (fun q=>?_))))
     ·refine AI (by decide) (AI (fun h=>absurd h (by decide)) ?_)
      refine AI (fun _=>?_) TV
      refine gY (gY (cF ?_))
      cases sE q
      refine E4 [(0,some 0)] (R3 (AJ (AI rfl TV)))
     refine gN (gN (cT ?_))
     cases sE q
     refine E4 [(0,some 0)] (R3 (AJ (AI rfl TV)))
    refine gN (gN (cT (gN (gN (gN (cT ?_))))))
    cases sE q
    refine E4 [(0,some 0)] (R3 (AJ (AI rfl TV)))
   refine gN (gN (cT (gN (gN (gN (cT (gN (gN (gN (cT ?_))))))))))
   cases sE q
   refine E4 [(0,some 0)] (R3 (AJ (AI rfl TV)))
  refine AI (OL (cN q (fun q=>?_) (fun q=>?_))) TV
  ·refine AI (by decide) (AI (fun h=>absurd h (by decide)) ?_)
   refine AI (fun _=>?_) TV
   refine gY (gY (AI (by decide) (AI (fun _=>?_) (AI (fun h=>absurd h (by decide)) TV))))
   refine gY (gY (gY (gY (cF ?_))))
   cases sE q
   refine AI rfl (E4 [] (R2 (AI TV TV)))
  refine gN (gN (gN (gN (gN (gN (cT ?_))))))
  cases sE q
  refine AI rfl (E4 [] (R2 (AI TV TV)))
 dsimp only [sumF] at q
 refine AI ?_ TV
 cases sE q
 refine AI rfl (E4 [] (R2 (AI TV TV)))
theorem C8_holds : HP C8 8 := hH Tryz.f8 (by kernel_rfl) rfl (fun x y q=>C8_vc x.1 x.2.1 x.2.2 y q)
theorem f8_in : InP 8 := inP (by kernel_rfl)
end Go.Proofs
