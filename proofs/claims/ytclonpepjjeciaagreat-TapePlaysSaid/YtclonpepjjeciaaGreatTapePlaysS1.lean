import Derived.Test.YtclonpepjjeciaaGreatTapePlaysS0
set_option linter.unusedVariables false
set_option maxRecDepth 100000
set_option maxHeartbeats 8000000
namespace Go.Proofs
open Go.AM
open IntKind (i64 u64 i32 u32 i16 u16 i8 u8)
def f77_j3 (a : LI×LI) (order : LI) : Option Bool :=
 bindF (f21 (a.1,a.2)) fun r9 =>
 bif (!r9) then
 some true
 else
 bindF (f112 order (List.length a.1:Int)) fun r10 =>
 some (!r10)
def f77_j2 (a : LI×LI) (order : LI) : Option (Sum Unit Unit) :=
 bindF (f77_j3 a order) fun z8 =>
 bif z8 then
 some (Sum.inr ())
 else
 some (Sum.inl ())
def f77_l4 (a : LI×LI) (order : LI) (go : (Int×LI) → Option LI) (v36:Int) (l2 : LI) : Option LI :=
 bif (decide (v36 < (List.length order:Int))) then
 guardF (0 ≤ v36 ∧ v36 < (List.length order:Int)) <|
 guardF (0 ≤ (rd (0:Int) order v36) ∧ (rd (0:Int) order v36) < (List.length a.1:Int)) <|
 guardF (0 ≤ v36 ∧ v36 < (List.length l2:Int)) <|
 go ((i64.wrap (v36 + (1:Int))),(List.set l2 (Int.toNat v36) (rd (0:Int) a.1 (rd (0:Int) order v36))))
 else
 some l2
def f77_l8 (order : LI) (q21_9 : Bool×LI) (go : (Int×LI) → Option LI) (v72:Int) (l5_2 : LI) : Option LI :=
 bif (decide (v72 < (List.length order:Int))) then
 guardF (0 ≤ v72 ∧ v72 < (List.length order:Int)) <|
 guardF (0 ≤ v72 ∧ v72 < (List.length q21_9.2:Int)) <|
 guardF (0 ≤ (rd (0:Int) order v72) ∧ (rd (0:Int) order v72) < (List.length l5_2:Int)) <|
 go ((i64.wrap (v72 + (1:Int))),(List.set l5_2 (Int.toNat (rd (0:Int) order v72)) (rd (0:Int) q21_9.2 v72)))
 else
 some l5_2
def f77_l7 (a : LI×LI) (order : LI) (z11 : LI) (r12 : Int×LI×LI) (go : (Int×LI) → Option LI) (v58:Int) (l5 : LI) : Option LI :=
 bif (decide (v58 < (List.length r12.2.2:Int))) then
 bindF (f113 z11 v58) fun q21_9 =>
 guardF (0 ≤ (List.length order:Int) ∧ (List.length order:Int) ≤ (List.length order:Int) ∧ Int.toNat (List.length order:Int) * 8 ≤ 140737488355328) <|
 bindF (loopF (fun go x=>f77_l8 order q21_9 go x.1 x.2) fuelN ((0:Int),(List.replicate (Int.toNat (List.length order:Int)) (0:Int)))) fun z19 =>
 bindF (f114 a.1 z19) fun r20 =>
 guardF (0 ≤ r20.1 ∧ r20.1 < (List.length a.2:Int)) <|
 guardF (0 ≤ v58 ∧ v58 < (List.length l5:Int)) <|
 go ((i64.wrap (v58 + (1:Int))),(List.set l5 (Int.toNat v58) (rd (0:Int) a.2 r20.1)))
 else
 some l5
def f77 (a : LI×LI) (order : LI) : Option (Int×LI×LI) :=
 bindF (f77_j2 a order) fun z5 =>
 sumF z5 (fun z5a =>
 guardF (0 ≤ (List.length order:Int) ∧ (List.length order:Int) ≤ (List.length order:Int) ∧ Int.toNat (List.length order:Int) * 8 ≤ 140737488355328) <|
 bindF (loopF (fun go x=>f77_l4 a order go x.1 x.2) fuelN ((0:Int),(List.replicate (Int.toNat (List.length order:Int)) (0:Int)))) fun z11 =>
 bindF (f70 z11 (0:Int)) fun r12 =>
 bindF (loopF (fun go x=>f77_l7 a order z11 r12 go x.1 x.2) fuelN ((0:Int),r12.2.2)) fun z18 =>
 some ((0:Int),r12.2.1,z18)) (fun z5b =>
 some ((1:Int),[],[]))
def C77 : Con where
 X := (LI×LI)×LI
 Y := Int×LI×LI
 e := 0
 args x := [.dat T3 x.1,.dat T1 x.2]
 hin x := []
 F x := f77 x.1 x.2
 ret y := [.raw true [(.osl 0),(.osl 1)],.dat T2 y.1]
 hout y := [(0,.arr 3 T2 y.2.1),(1,.arr 33 T2 y.2.2)]
 nout := 2
theorem C77_vc (a : LI×LI) (order : LI) (y : Int×LI×LI) (q : f77 a order = some y) : VC Tryz.f77 C77 (a,order) y := by
 unfold f77 at q
 refine OL ?_
 obtain ⟨z5,hz5,q⟩ := bE q
 refine OQ ⟨Sum.elim (fun z5a=>[(0,⟨[(1,.dat T1 order),(2,P0 0 0),(4,P0 1 0)],[(0,.cells [(.d T1 a.1),(.d T1 a.2)]),(1,.cells [N0,N0])],2⟩)]) (fun z5b=>[(1,⟨[(4,P0 0 0),(5,D0 1)],[(0,.cells [N0,N0])],1⟩)]) z5,?_,?_⟩
 ·have q := hz5
  clear hz5
  unfold f77_j2 at q
  obtain ⟨z8,hz8,q⟩ := bE q
  refine OQ ⟨[(0,⟨[(1,.dat T1 order),(2,P0 0 0),(4,P0 1 0),(29,.dat .bool z8)],[(0,.cells [(.d T1 a.1),(.d T1 a.2)]),(1,.cells [N0,N0])],2⟩)],?_,?_⟩
  ·have q := hz8
   clear hz8
   unfold f77_j3 at q
   obtain ⟨r9,hr9,q⟩ := bE q
   refine OL (AI f21_in (cV (cQ C21 (a.1,a.2) r9 [] false C21_holds hr9 rfl rfl (R2 (K0 (cN q (fun q=>?_) (fun q=>?_)))))))
   ·refine gY (gY (gY (gY ?_)))
    obtain ⟨r10,hr10,q⟩ := bE q
    refine OL (AI f112_in (cV (cQ C112 (order,(List.length a.1:Int)) r10 [] false C112_holds hr10 rfl rfl (R2 (K0 (gY (cF ?_)))))))
    cases sE q
    refine E4 I2 (R3 (AI (R2 TV) (R2 TV)))
   refine gN (gN (gN (gN (gN (cT ?_)))))
   cases sE q
   refine E4 I2 (R3 (AI (R2 TV) (R2 TV)))
  refine AI (cI q (fun q=>?_) (fun q=>?_)) TV
  ·refine OL (OL ?_)
   cases sE q
   refine E4 [(0,some 1)] (R2 (AJ (AI rfl TV)))
  cases sE q
  refine E4 I2 (R2 (AI (R2 TV) (R2 TV)))
 rcases z5 with z5a | z5b
 ·dsimp only [sumF] at q
  refine AI (OL (gI q (fun q=>?_))) TV
  refine OL (OL ?_)
  obtain ⟨z11,hz11,q⟩ := bE q
  refine lI (Int×LI) LI (fun x=>⟨[(1,.dat T1 order),(2,P0 0 0),(4,P0 1 0),(6,O0 2),(34,.dat T1 order),(35,.dat T2 (List.length order:Int)),(36,.dat T2 x.1)],[(0,.cells [(.d T1 a.1),(.d T1 a.2)]),(1,.cells [N0,N0]),(2,.arr 3 T2 x.2)],3⟩) (fun z=>[(2,⟨[(1,.dat T1 order),(2,P0 0 0),(4,P0 1 0),(6,O0 2)],[(0,.cells [(.d T1 a.1),(.d T1 a.2)]),(1,.cells [N0,N0]),(2,.arr 3 T2 z)],3⟩)]) (loopF (fun go x=>f77_l4 a order go x.1 x.2)) fuelN ((0:Int),(List.replicate (Int.toNat (List.length order:Int)) (0:Int))) z11 (AI hz11 (AI (E4 I3 (R5 (AI (R3 TV) (R3 TV)))) (AI (fun _ _ h=>lZ h) (AI (fun m=>curI (fun v36=>fun l2 z q=>?_)) ?_))))
  ·have q : f77_l4 a order (loopF (fun go x=>f77_l4 a order go x.1 x.2) m) v36 l2 = some z := q
   unfold f77_l4 at q
   refine OL (OL (cI q (fun q=>?_) (fun q=>?_)))
   ·refine OL (OL (gI q (fun q=>?_)))
    refine gI q (fun q=>?_)
    refine gI q (fun q=>?_)
    refine OL (EI ((i64.wrap (v36 + (1:Int))),(List.set l2 (Int.toNat v36) (rd (0:Int) a.1 (rd (0:Int) order v36)))) (AI q (E4 I3 (R5 (AI (R3 TV) (R3 TV))))))
   cases sE q
   refine E4 I3 (R2 (AI (R3 TV) (R3 TV)))
  refine AI (OL ?_) TV
  obtain ⟨r12,hr12,q⟩ := bE q
  refine OL (AI f70_in (cV (cQ C70 (z11,(0:Int)) r12 [] true C70_holds hr12 rfl rfl (R2 (AI (fun _=>rfl) (R2 (AI TV (AI TV (OL (OL (OL ?_)))))))))))
  obtain ⟨z18,hz18,q⟩ := bE q
  refine lI (Int×LI) LI (fun x=>⟨[(1,.dat T1 order),(2,P0 0 0),(4,P0 1 0),(6,O0 2),(9,P0 3 0),(57,.dat T2 (List.length r12.2.2:Int)),(58,.dat T2 x.1)],[(0,.cells [(.d T1 a.1),(.d T1 a.2)]),(1,.cells [N0,N0]),(2,.arr 3 T2 z11),(3,.cells [(.osl 4),(.osl 5)]),(4,.arr 3 T2 r12.2.1),(5,.arr 33 T2 x.2)],6⟩) (fun z=>[(4,⟨[(4,P0 0 0),(9,P0 1 0)],[(0,.cells [N0,N0]),(1,.cells [(.osl 2),(.osl 3)]),(2,.arr 3 T2 r12.2.1),(3,.arr 33 T2 z)],4⟩)]) (loopF (fun go x=>f77_l7 a order z11 r12 go x.1 x.2)) fuelN ((0:Int),r12.2.2) z18 (AI hz18 (AI (E4 [(0,some 0),(1,some 1),(2,some 2),(3,some 5),(4,some 3),(5,some 4)] (R4 (AI (R4 TV) (R6 TV)))) (AI (fun _ _ h=>lZ h) (AI (fun m=>curI (fun v58=>fun l5 z q=>?_)) ?_))))
  ·have q : f77_l7 a order z11 r12 (loopF (fun go x=>f77_l7 a order z11 r12 go x.1 x.2) m) v58 l5 = some z := q
   unfold f77_l7 at q
   refine OL (OL (cI q (fun q=>?_) (fun q=>?_)))
   ·refine OL (OL (OL ?_))
    obtain ⟨q21_9,hq21_9,q⟩ := bE q
    refine OL (AI f113_in (cV (cQ C113 (z11,v58) q21_9 [] true C113_holds hq21_9 rfl rfl (R2 (AI (fun _=>rfl) (R2 (AI TV (AI TV (OL (gI q (fun q=>?_)))))))))))
    refine OL (OL ?_)
    obtain ⟨z19,hz19,q⟩ := bE q
    refine lI (Int×LI) LI (fun x=>⟨[(1,.dat T1 order),(2,P0 0 0),(4,P0 1 0),(6,O0 2),(9,P0 3 0),(11,.dat T2 v58),(12,O0 4),(14,O0 5),(57,.dat T2 (List.length r12.2.2:Int)),(58,.dat T2 v58),(70,.dat T1 order),(71,.dat T2 (List.length order:Int)),(72,.dat T2 x.1)],[(0,.cells [(.d T1 a.1),(.d T1 a.2)]),(1,.cells [N0,N0]),(2,.arr 3 T2 z11),(3,.cells [(.osl 6),(.osl 7)]),(4,.arr 3 T2 q21_9.2),(5,.arr 3 T2 x.2),(6,.arr 3 T2 r12.2.1),(7,.arr 33 T2 l5)],8⟩) (fun z=>[(6,⟨[(1,.dat T1 order),(2,P0 0 0),(4,P0 1 0),(6,O0 2),(9,P0 3 0),(11,.dat T2 v58),(14,O0 4),(57,.dat T2 (List.length r12.2.2:Int)),(58,.dat T2 v58)],[(0,.cells [(.d T1 a.1),(.d T1 a.2)]),(1,.cells [N0,N0]),(2,.arr 3 T2 z11),(3,.cells [(.osl 5),(.osl 6)]),(4,.arr 3 T2 z),(5,.arr 3 T2 r12.2.1),(6,.arr 33 T2 l5)],7⟩)]) (loopF (fun go x=>f77_l8 order q21_9 go x.1 x.2)) fuelN ((0:Int),(List.replicate (Int.toNat (List.length order:Int)) (0:Int))) z19 (AI hz19 (AI (E4 [(0,some 0),(1,some 1),(2,some 2),(3,some 3),(4,some 6),(5,some 7),(6,some 4),(7,some 5)] (R8 (AI (R6 TV) (R8 TV)))) (AI (fun _ _ h=>lZ h) (AI (fun m=>curI (fun v72=>fun l5_2 z q=>?_)) ?_))))
    ·have q : f77_l8 order q21_9 (loopF (fun go x=>f77_l8 order q21_9 go x.1 x.2) m) v72 l5_2 = some z := q
     unfold f77_l8 at q
     refine OL (OL (cI q (fun q=>?_) (fun q=>?_)))
     ·refine OL (OL (gI q (fun q=>?_)))
      refine gI q (fun q=>?_)
      refine gI q (fun q=>?_)
      refine OL (EI ((i64.wrap (v72 + (1:Int))),(List.set l5_2 (Int.toNat (rd (0:Int) order v72)) (rd (0:Int) q21_9.2 v72))) (AI q (E4 I8 (R8 (AI (R6 TV) (R8 TV))))))
     cases sE q
     refine E4 [(0,some 0),(1,some 1),(2,some 2),(3,some 3),(4,some 5),(5,some 6),(6,some 7)] (R5 (AI (R5 TV) (R7 TV)))
    refine AI (OL ?_) TV
    obtain ⟨r20,hr20,q⟩ := bE q
    refine OL (AI f114_in (cV (cQ C114 (a.1,z19) r20 [] true C114_holds hr20 rfl rfl (R2 (AI (fun _=>rfl) (R2 (AI TV (AI TV (EI (.take 0 (.take 1 (.take 2 (.take 3 (.take 4 (.take 5 (.take 6 (.take 7 (.take 8 (.alt 9 .done .done)))))))))) (EI [] (EI [] (AI rfl (gI q (fun q=>?_))))))))))))))
    refine gI q (fun q=>?_)
    refine AI TV (OL (EI ((i64.wrap (v58 + (1:Int))),(List.set l5 (Int.toNat v58) (rd (0:Int) a.2 r20.1))) (AI q (E4 [(0,some 0),(1,some 1),(2,some 2),(3,some 3),(4,some 5),(5,some 6)] (R4 (AI (R4 TV) (R6 TV)))))))
   cases sE q
   refine E4 [(0,some 1),(1,some 3),(2,some 4),(3,some 5)] (AI rfl (AI (R2 TV) (R4 TV)))
  refine AI (OL (OL ?_)) TV
  cases sE q
  refine AI rfl (E4 [(0,some 2),(1,some 3)] (R2 (AJ (R2 TV))))
 dsimp only [sumF] at q
 refine AI ?_ TV
 cases sE q
 refine AI rfl (E4 [(0,none),(1,none)] (R2 (AJ (R2 TV))))
theorem C77_holds : HP C77 77 := hH Tryz.f77 (by kernel_rfl) rfl (fun x y q=>C77_vc x.1 x.2 y q)
theorem f77_in : InP 77 := inP (by kernel_rfl)
def f41 (a : LI×LI) : Option (Int×LI×LI) :=
 bindF (f21 (a.1,a.2)) fun r1 =>
 bif (!r1) then
 some ((1:Int),[],[])
 else
 bindF (f69 (a.1,a.2)) fun r2 =>
 bif (!r2) then
 some ((4:Int),[],[])
 else
 bindF (f77 (a.1,a.2) ([(1:Int),(0:Int)])) fun r3 =>
 some (r3.1,r3.2.1,r3.2.2)
def C41 : Con where
 X := LI×LI
 Y := Int×LI×LI
 e := 0
 args x := [.dat T3 x]
 hin x := []
 F x := f41 x
 ret y := [.raw true [(.osl 0),(.osl 1)],.dat T2 y.1]
 hout y := [(0,.arr 3 T2 y.2.1),(1,.arr 33 T2 y.2.2)]
 nout := 2
theorem C41_vc (a : LI×LI) (y : Int×LI×LI) (q : f41 a = some y) : VC Tryz.f41 C41 a y := by
 unfold f41 at q
 refine OL (OL (OL ?_))
 obtain ⟨r1,hr1,q⟩ := bE q
 refine OL (AI f21_in (cV (cQ C21 (a.1,a.2) r1 [] false C21_holds hr1 rfl rfl (R2 (K0 (cI q (fun q=>?_) (fun q=>?_)))))))
 ·refine OL (OL ?_)
  cases sE q
  refine AI rfl (E4 [(0,none),(1,none)] (R2 (AJ (R2 TV))))
 refine OL ?_
 obtain ⟨r2,hr2,q⟩ := bE q
 refine OL (AI f69_in (cV (cQ C69 (a.1,a.2) r2 [] false C69_holds hr2 rfl rfl (R2 (K0 (cI q (fun q=>?_) (fun q=>?_)))))))
 ·refine OL (OL ?_)
  cases sE q
  refine AI rfl (E4 [(0,none),(1,none)] (R2 (AJ (R2 TV))))
 refine OL (OL ?_)
 obtain ⟨r3,hr3,q⟩ := bE q
 refine OL (AI f77_in (cV (cQ C77 ((a.1,a.2),[(1:Int),(0:Int)]) r3 [] true C77_holds hr3 rfl rfl (R3 (AI (fun _=>rfl) (R2 (AI TV (AI TV (OL ?_)))))))))
 cases sE q
 refine AI rfl (E4 [(0,some 3),(1,some 4)] (R2 (AJ (R2 TV))))
theorem C41_holds : HP C41 41 := hH Tryz.f41 (by kernel_rfl) rfl (fun x y q=>C41_vc x y q)
theorem f41_in : InP 41 := inP (by kernel_rfl)
def f118 (v:Int) : Option Int :=
 bif (decide (v < (0:Int))) then
 some (u64.wrap (0 - (u64.wrap v)))
 else
 some (u64.wrap v)
def C118 : Con where
 X := Int
 Y := Int
 e := 0
 args x := [.dat T2 x]
 hin x := []
 F x := f118 x
 ret y := [.dat T4 y]
 hout y := []
 nout := 0
theorem C118_vc (v:Int) (y:Int) (q : f118 v = some y) : VC Tryz.f118 C118 v y := by
 unfold f118 at q
 refine OL (OL (OL (cI q (fun q=>?_) (fun q=>?_))))
 ·cases sE q
  refine OL (AI rfl (E4 [] (R2 (AI TV TV))))
 cases sE q
 refine OL (AI rfl (E4 [] (R2 (AI TV TV))))
theorem C118_holds : HP C118 118 := hH Tryz.f118 (by kernel_rfl) rfl (fun x y q=>C118_vc x y q)
theorem f118_in : InP 118 := inP (by kernel_rfl)
def f138 (a : Int×Int) (b : Int×Int) : Option (Int×Int) :=
 bindF (sub64 a.2 b.2 (0:Int)) fun r1 =>
 bindF (sub64 (u64.wrap a.1) (u64.wrap b.1) r1.2) fun r2 =>
 some ((i64.wrap r2.1),r1.1)
def C138 : Con where
 X := (Int×Int)×(Int×Int)
 Y := Int×Int
 e := 0
 args x := [.dat T5 x.1,.dat T5 x.2]
 hin x := []
 F x := f138 x.1 x.2
 ret y := [.raw true [(.d T2 y.1),(.d T4 y.2)]]
 hout y := []
 nout := 0
theorem C138_vc (a : Int×Int) (b : Int×Int) (y : Int×Int) (q : f138 a b = some y) : VC Tryz.f138 C138 (a,b) y := by
 unfold f138 at q
 refine OL (OL ?_)
 obtain ⟨r1,hr1,q⟩ := bE q
 refine OQ ⟨ext3 sub64,[r1.1,r1.2],sub64_ok,AI (ext3I hr1) ?_⟩
 refine OL ?_
 obtain ⟨r2,hr2,q⟩ := bE q
 refine OQ ⟨ext3 sub64,[r2.1,r2.2],sub64_ok,AI (ext3I hr2) ?_⟩
 refine OL (OL ?_)
 cases sE q
 refine AI rfl (E4 [] (AI rfl (AJ TV)))
theorem C138_holds : HP C138 138 := hH Tryz.f138 (by kernel_rfl) rfl (fun x y q=>C138_vc x.1 x.2 y q)
theorem f138_in : InP 138 := inP (by kernel_rfl)
def f120 (a : Int×Int) : Option (Int×Int) :=
 bindF (f138 ((0:Int),(0:Int)) (a.1,a.2)) fun r1 =>
 some (r1.1,r1.2)
def C120 : Con where
 X := Int×Int
 Y := Int×Int
 e := 0
 args x := [.dat T5 x]
 hin x := []
 F x := f120 x
 ret y := [.raw true [(.d T2 y.1),(.d T4 y.2)]]
 hout y := []
 nout := 0
theorem C120_vc (a : Int×Int) (y : Int×Int) (q : f120 a = some y) : VC Tryz.f120 C120 a y := by
 unfold f120 at q
 refine OL (OL ?_)
 obtain ⟨r1,hr1,q⟩ := bE q
 refine OL (AI f138_in (cV (cQ C138 (((0:Int),(0:Int)),(a.1,a.2)) r1 [] false C138_holds hr1 rfl rfl (R4 (K0 (OL ?_))))))
 cases sE q
 refine AI rfl (E4 [] (AI rfl (AJ TV)))
theorem C120_holds : HP C120 120 := hH Tryz.f120 (by kernel_rfl) rfl (fun x y q=>C120_vc x y q)
theorem f120_in : InP 120 := inP (by kernel_rfl)
def f110 (a:Int) (b:Int) : Option (Int×Int) :=
 bindF (f118 a) fun r1 =>
 bindF (f118 b) fun r2 =>
 bindF (f105 r1 r2) fun r3 =>
 bif (!((decide (a < (0:Int))) == (decide (b < (0:Int))))) then
 bindF (f120 ((i64.wrap r3.1),r3.2)) fun r4 =>
 some (r4.1,r4.2)
 else
 some ((i64.wrap r3.1),r3.2)
def C110 : Con where
 X := Int×Int
 Y := Int×Int
 e := 0
 args x := [.dat T2 x.1,.dat T2 x.2]
 hin x := []
 F x := f110 x.1 x.2
 ret y := [.raw true [(.d T2 y.1),(.d T4 y.2)]]
 hout y := []
 nout := 0
theorem C110_vc (a:Int) (b:Int) (y : Int×Int) (q : f110 a b = some y) : VC Tryz.f110 C110 (a,b) y := by
 unfold f110 at q
 refine OL (OL ?_)
 obtain ⟨r1,hr1,q⟩ := bE q
 refine OL (AI f118_in (cV (cQ C118 a r1 [] false C118_holds hr1 rfl rfl (AI rfl (K0 ?_)))))
 obtain ⟨r2,hr2,q⟩ := bE q
 refine OL (AI f118_in (cV (cQ C118 b r2 [] false C118_holds hr2 rfl rfl (AI rfl (K0 ?_)))))
 obtain ⟨r3,hr3,q⟩ := bE q
 refine OL (AI f105_in (cV (cQ C105 (r1,r2) r3 [] false C105_holds hr3 rfl rfl (R2 (K0 (OL (OL (OL (OL (cI q (fun q=>?_) (fun q=>?_)))))))))))
 ·refine OL ?_
  obtain ⟨r4,hr4,q⟩ := bE q
  refine OL (AI f120_in (cV (cQ C120 ((i64.wrap r3.1),r3.2) r4 [] false C120_holds hr4 rfl rfl (R2 (K0 (OL ?_))))))
  cases sE q
  refine AI rfl (E4 [] (AI rfl (AJ TV)))
 refine OL (OL ?_)
 cases sE q
 refine AI rfl (E4 [] (AI rfl (AJ TV)))
theorem C110_holds : HP C110 110 := hH Tryz.f110 (by kernel_rfl) rfl (fun x y q=>C110_vc x.1 x.2 y q)
theorem f110_in : InP 110 := inP (by kernel_rfl)
def f75 (s_top:Int) (s_low_Hi:Int) (s_low_Lo:Int) (a:Int) (b:Int) : Option (Int×Int×Int) :=
 bindF (f110 a b) fun q4_13 =>
 bindF (add64 s_low_Lo q4_13.2 (0:Int)) fun q1_7 =>
 bindF (add64 (u64.wrap s_low_Hi) (u64.wrap q4_13.1) q1_7.2) fun q2_10 =>
 some ((i64.wrap (s_top + (i64.wrap ((Int.fdiv q4_13.1 (2 ^ min (Int.toNat (63:Int)) i64.bits)) + (i64.wrap q2_10.2))))),(i64.wrap q2_10.1),q1_7.1)
def C75 : Con where
 X := Int×Int×Int×Int×Int
 Y := Int×Int×Int
 e := 1
 args x := [P0 0 0,.dat T2 x.2.2.2.1,.dat T2 x.2.2.2.2]
 hin x := [(0,.cells [(.d T2 x.1),(.d T2 x.2.1),(.d T4 x.2.2.1)])]
 F x := f75 x.1 x.2.1 x.2.2.1 x.2.2.2.1 x.2.2.2.2
 ret y := []
 hout y := [(0,.cells [(.d T2 y.1),(.d T2 y.2.1),(.d T4 y.2.2)])]
 nout := 1
theorem C75_vc (s_top:Int) (s_low_Hi:Int) (s_low_Lo:Int) (a:Int) (b:Int) (y : Int×Int×Int) (q : f75 s_top s_low_Hi s_low_Lo a b = some y) : VE Tryz.f75 1 C75 (s_top,s_low_Hi,s_low_Lo,a,b) y := by
 unfold f75 at q
 refine OL ?_
 obtain ⟨q4_13,hq4_13,q⟩ := bE q
 refine OL (AI f110_in (cV (cQ C110 (a,b) q4_13 [] false C110_holds hq4_13 rfl rfl (R2 (K0 (OL (OL (EI (.take 0 (.take 1 (.take 2 (.take 3 (.take 4 (.take 5 (.take 6 (.alt 7 (.take 8 (.take 9 (.take 10 (.take 11 (.take 12 .done))))) .done)))))))) (EI [] (EI [] (AI rfl (AI TV ?_))))))))))))
 obtain ⟨q1_7,hq1_7,q⟩ := bE q
 refine OQ ⟨ext3 add64,[q1_7.1,q1_7.2],add64_ok,AI (ext3I hq1_7) ?_⟩
 refine OL (EI (.take 0 (.take 1 (.take 2 (.take 3 (.take 4 (.take 5 (.take 6 (.take 7 (.take 8 (.take 9 (.alt 10 (.take 11 (.take 12 (.take 13 (.take 14 (.take 15 .done))))) .done))))))))))) (EI [] (EI [] (AI rfl (AI TV ?_)))))
 obtain ⟨q2_10,hq2_10,q⟩ := bE q
 refine OQ ⟨ext3 add64,[q2_10.1,q2_10.2],add64_ok,AI (ext3I hq2_10) ?_⟩
 refine OL (OL (EI (.take 0 (.take 1 (.take 2 (.take 3 (.take 4 (.take 5 (.take 6 (.take 7 (.take 8 (.take 9 (.take 10 (.take 11 (.take 12 (.alt 13 .done .done)))))))))))))) (EI [(13,[0])] (EI [] (AI rfl (AI (by decide) (AI TV (OL ?_))))))))
 cases sE q
 refine AI rfl (E4 [(0,some 0)] (AI rfl (AI TV (AI rfl TV))))
theorem C75_holds : HP C75 75 := hH Tryz.f75 (by kernel_rfl) rfl (fun x y q=>C75_vc x.1 x.2.1 x.2.2.1 x.2.2.2.1 x.2.2.2.2 y q)
theorem f75_in : InP 75 := inP (by kernel_rfl)
def f135 (a : Int×Int) (n:Int) : Option (Int×Int×Int×Int) :=
 bif (decide (n ≥ (64:Int))) then
 guardF (0 ≤ (i64.wrap (n - (64:Int)))) <|
 guardF (0 ≤ (i64.wrap ((64:Int) - (i64.wrap (n - (64:Int)))))) <|
 guardF (0 ≤ (i64.wrap (n - (64:Int)))) <|
 guardF (0 ≤ (i64.wrap ((64:Int) - (i64.wrap (n - (64:Int)))))) <|
 some ((Int.fdiv a.1 (2 ^ min (Int.toNat (63:Int)) i64.bits)),(u64.wrap (Int.fdiv a.1 (2 ^ min (Int.toNat (i64.wrap (n - (64:Int)))) i64.bits))),(bitsOf IntKind.u64 (fun p q=>p ||| q) (u64.wrap ((u64.wrap a.1) * 2 ^ min (Int.toNat (i64.wrap ((64:Int) - (i64.wrap (n - (64:Int)))))) u64.bits)) (Int.fdiv a.2 (2 ^ min (Int.toNat (i64.wrap (n - (64:Int)))) u64.bits))),(u64.wrap (a.2 * 2 ^ min (Int.toNat (i64.wrap ((64:Int) - (i64.wrap (n - (64:Int)))))) u64.bits)))
 else
 guardF (0 ≤ n) <|
 guardF (0 ≤ (i64.wrap ((64:Int) - n))) <|
 guardF (0 ≤ n) <|
 guardF (0 ≤ (i64.wrap ((64:Int) - n))) <|
 some ((Int.fdiv a.1 (2 ^ min (Int.toNat n) i64.bits)),(bitsOf IntKind.u64 (fun p q=>p ||| q) (u64.wrap ((u64.wrap a.1) * 2 ^ min (Int.toNat (i64.wrap ((64:Int) - n))) u64.bits)) (Int.fdiv a.2 (2 ^ min (Int.toNat n) u64.bits))),(u64.wrap (a.2 * 2 ^ min (Int.toNat (i64.wrap ((64:Int) - n))) u64.bits)),(0:Int))
def C135 : Con where
 X := (Int×Int)×Int
 Y := Int×Int×Int×Int
 e := 0
 args x := [.dat T5 x.1,.dat T2 x.2]
 hin x := []
 F x := f135 x.1 x.2
 ret y := [.raw true [(.d T2 y.1),(.d T4 y.2.1)],.dat T4 y.2.2.1,.dat T4 y.2.2.2]
 hout y := []
 nout := 0
theorem C135_vc (a : Int×Int) (n:Int) (y : Int×Int×Int×Int) (q : f135 a n = some y) : VC Tryz.f135 C135 (a,n) y := by
 unfold f135 at q
 refine OL (OL (EI (.take 0 (.take 1 (.take 2 (.take 3 (.take 4 (.take 5 (.take 6 .done))))))) (EI [] (EI [] (AI rfl (OL (OL (cI q (fun q=>?_) (fun q=>?_)))))))))
 ·refine OL (OL (EI (.take 0 (.take 1 (.take 2 (.take 3 (.take 4 (.take 5 (.take 6 (.take 7 (.take 8 (.alt 9 (.alt 10 .done .done) .done)))))))))) (EI [] (EI [] (AI rfl (AI (by decide) (gI q (fun q=>?_))))))))
  refine AI TV (AI TV (OL (OL (EI (.take 0 (.take 1 (.take 2 (.take 3 (.take 4 (.take 5 (.take 6 (.take 7 (.take 8 (.take 9 (.take 10 (.take 11 (.take 12 (.alt 13 (.take 14 (.take 15 .done)) .done)))))))))))))) (EI [] (EI [] (AI rfl (gI q (fun q=>?_)))))))))
  refine gI q (fun q=>?_)
  refine gI q (fun q=>?_)
  refine AI TV (OL ?_)
  cases sE q
  refine AI rfl (E4 [] (R3 (AJ TV)))
 refine OL (EI (.take 0 (.take 1 (.take 2 (.take 3 (.take 4 (.take 5 (.take 6 (.take 7 (.take 8 (.take 9 (.take 10 (.take 11 (.take 12 (.take 13 (.take 14 (.take 15 (.take 16 (.alt 17 (.take 18 (.take 19 .done)) .done)))))))))))))))))) (EI [] (EI [] (AI rfl (gI q (fun q=>?_))))))
 refine gI q (fun q=>?_)
 refine gI q (fun q=>?_)
 refine gI q (fun q=>?_)
 refine AI TV (OL ?_)
 cases sE q
 refine AI rfl (E4 [] (R3 (AJ TV)))
theorem C135_holds : HP C135 135 := hH Tryz.f135 (by kernel_rfl) rfl (fun x y q=>C135_vc x.1 x.2 y q)
theorem f135_in : InP 135 := inP (by kernel_rfl)
def f80 (n:Int) : Option (Int×Int) :=
 some ((Int.fdiv n (2 ^ min (Int.toNat (63:Int)) i64.bits)),(u64.wrap n))
def C80 : Con where
 X := Int
 Y := Int×Int
 e := 0
 args x := [.dat T2 x]
 hin x := []
 F x := f80 x
 ret y := [.raw true [(.d T2 y.1),(.d T4 y.2)]]
 hout y := []
 nout := 0
theorem C80_vc (n:Int) (y : Int×Int) (q : f80 n = some y) : VC Tryz.f80 C80 n y := by
 unfold f80 at q
 refine OL (OL (AI (by decide) (OL ?_)))
 cases sE q
 refine AI rfl (E4 [] (AI rfl (AJ TV)))
theorem C80_holds : HP C80 80 := hH Tryz.f80 (by kernel_rfl) rfl (fun x y q=>C80_vc x y q)
theorem f80_in : InP 80 := inP (by kernel_rfl)
def f79 (a : Int×Int) (b : Int×Int) : Option (Int×Int) :=
 bindF (add64 a.2 b.2 (0:Int)) fun r1 =>
 bindF (add64 (u64.wrap a.1) (u64.wrap b.1) r1.2) fun r2 =>
 some ((i64.wrap r2.1),r1.1)
def C79 : Con where
 X := (Int×Int)×(Int×Int)
 Y := Int×Int
 e := 0
 args x := [.dat T5 x.1,.dat T5 x.2]
 hin x := []
 F x := f79 x.1 x.2
 ret y := [.raw true [(.d T2 y.1),(.d T4 y.2)]]
 hout y := []
 nout := 0
theorem C79_vc (a : Int×Int) (b : Int×Int) (y : Int×Int) (q : f79 a b = some y) : VC Tryz.f79 C79 (a,b) y := by
 unfold f79 at q
 refine OL (OL ?_)
 obtain ⟨r1,hr1,q⟩ := bE q
 refine OQ ⟨ext3 add64,[r1.1,r1.2],add64_ok,AI (ext3I hr1) ?_⟩
 refine OL ?_
 obtain ⟨r2,hr2,q⟩ := bE q
 refine OQ ⟨ext3 add64,[r2.1,r2.2],add64_ok,AI (ext3I hr2) ?_⟩
 refine OL (OL ?_)
 cases sE q
 refine AI rfl (E4 [] (AI rfl (AJ TV)))
theorem C79_holds : HP C79 79 := hH Tryz.f79 (by kernel_rfl) rfl (fun x y q=>C79_vc x.1 x.2 y q)
theorem f79_in : InP 79 := inP (by kernel_rfl)
def f111_j1 (n:Int) : Option (Sum Unit Unit) :=
 bif (decide (n < (1:Int))) then
 some (Sum.inr ())
 else
 bif (decide (n > (126:Int))) then
 some (Sum.inr ())
 else
 some (Sum.inl ())
def f111_j2 (q5_3 : Int×Int×Int×Int) : Option Bool :=
 bif (decide (q5_3.2.2.1 > (9223372036854775808:Int))) then
 some true
 else
 bif (q5_3.2.2.1 == (9223372036854775808:Int)) then
 bif (decide (q5_3.2.2.2 > (0:Int))) then
 some true
 else
 some ((bitsOf IntKind.u64 (fun p q=>p &&& q) q5_3.2.1 (1:Int)) == (1:Int))
 else
 some false
def f111 (a : Int×Int) (n:Int) : Option (Int×Int) :=
 bindF (f111_j1 n) fun z1 =>
 sumF z1 (fun z1a =>
 bindF (f135 (a.1,a.2) n) fun q5_3 =>
 bindF (f111_j2 q5_3) fun z2 =>
 bif z2 then
 bindF (f80 (1:Int)) fun q5_1 =>
 bindF (f79 (q5_3.1,q5_3.2.1) (q5_1.1,q5_1.2)) fun q5_2 =>
 some (q5_2.1,q5_2.2)
 else
 some (q5_3.1,q5_3.2.1)) (fun z1b =>
 some (a.1,a.2))
def C111 : Con where
 X := (Int×Int)×Int
 Y := Int×Int
 e := 0
 args x := [.dat T5 x.1,.dat T2 x.2]
 hin x := []
 F x := f111 x.1 x.2
 ret y := [.raw true [(.d T2 y.1),(.d T4 y.2)]]
 hout y := []
 nout := 0
theorem C111_vc (a : Int×Int) (n:Int) (y : Int×Int) (q : f111 a n = some y) : VC Tryz.f111 C111 (a,n) y := by
 unfold f111 at q
 refine OL ?_
 obtain ⟨z1,hz1,q⟩ := bE q
 refine OQ ⟨Sum.elim (fun z1a=>[(0,⟨[(1,.dat T2 n),(2,P0 0 0),(4,P0 1 0)],[(0,.cells [(.d T2 a.1),(.d T4 a.2)]),(1,.cells [(.d T2 (0:Int)),(.d T4 (0:Int))])],2⟩)]) (fun z1b=>[(1,⟨[(4,P0 0 0)],[(0,.cells [(.d T2 a.1),(.d T4 a.2)])],1⟩)]) z1,?_,?_⟩
 ·have q := hz1
  clear hz1
  unfold f111_j1 at q
  refine OL (cN q (fun q=>?_) (fun q=>?_))
  ·refine gY (cF (cI q (fun q=>?_) (fun q=>?_)))
   ·refine OL (OL ?_)
    cases sE q
    refine E4 [(0,some 1)] (AI rfl (AJ (AI rfl TV)))
   cases sE q
   refine E4 I2 (R2 (AI (R2 TV) (R2 TV)))
  refine gN (cT (cT (OL (OL ?_))))
  cases sE q
  refine E4 [(0,some 1)] (AI rfl (AJ (AI rfl TV)))
 rcases z1 with z1a | z1b
 ·dsimp only [sumF] at q
  refine AI (OL ?_) TV
  obtain ⟨q5_3,hq5_3,q⟩ := bE q
  refine OL (AI f135_in (cV (cQ C135 ((a.1,a.2),n) q5_3 [] false C135_holds hq5_3 rfl rfl (R3 (K0 (OL (OL ?_)))))))
  obtain ⟨z2,hz2,q⟩ := bE q
  refine OQ ⟨[(0,⟨[(4,P0 0 0),(5,P0 1 0),(37,.dat .bool z2)],[(0,.cells [(.d T2 (0:Int)),(.d T4 (0:Int))]),(1,.cells [(.d T2 q5_3.1),(.d T4 q5_3.2.1)])],2⟩)],?_,?_⟩
  ·have q := hz2
   clear hz2
   unfold f111_j2 at q
   refine cN q (fun q=>?_) (fun q=>?_)
   ·refine gY (gY (cI q (fun q=>?_) (fun q=>?_)))
    ·refine gX (gX (cN q (fun q=>?_) (fun q=>?_)))
     ·refine gY (gY (gY (gX (cF (gY (cT (cF ?_)))))))
      cases sE q
      refine E4 [(0,some 1),(1,some 2)] (R2 (AI (R2 TV) (R2 TV)))
     refine gN (gN (gN (gX (cT (gY (cT (cF ?_)))))))
     cases sE q
     refine E4 [(0,some 1),(1,some 2)] (R2 (AI (R2 TV) (R2 TV)))
    refine gM (gM (gM (gY (cF (cF ?_)))))
    cases sE q
    refine E4 [(0,some 1),(1,some 2)] (R2 (AI (R2 TV) (R2 TV)))
   refine gN (gN (gN (cT ?_)))
   cases sE q
   refine E4 [(0,some 1),(1,some 2)] (R2 (AI (R2 TV) (R2 TV)))
  refine AI (cI q (fun q=>?_) (fun q=>?_)) TV
  ·refine OL (EI (.take 0 (.alt 1 (.alt 2 (.alt 3 .done .done) .done) .done)) (EI [] (EI [] (AI rfl (AI TV ?_)))))
   obtain ⟨q5_1,hq5_1,q⟩ := bE q
   refine OL (AI f80_in (cV (cQ C80 (1:Int) q5_1 [] false C80_holds hq5_1 rfl rfl (AI rfl (K0 (AI TV ?_))))))
   obtain ⟨q5_2,hq5_2,q⟩ := bE q
   refine OL (AI f79_in (cV (cQ C79 ((q5_3.1,q5_3.2.1),(q5_1.1,q5_1.2)) q5_2 [] false C79_holds hq5_2 rfl rfl (R4 (K0 (AI TV (OL ?_)))))))
   cases sE q
   refine AI rfl (E4 [] (AI rfl (AJ TV)))
  refine OL (OL ?_)
  cases sE q
  refine AI rfl (E4 [] (AI rfl (AJ TV)))
 dsimp only [sumF] at q
 refine AI ?_ TV
 cases sE q
 refine AI rfl (E4 [] (AI rfl (AJ TV)))
theorem C111_holds : HP C111 111 := hH Tryz.f111 (by kernel_rfl) rfl (fun x y q=>C111_vc x.1 x.2 y q)
theorem f111_in : InP 111 := inP (by kernel_rfl)
def f81_j3 (a : Int×Int) : Option Bool :=
 bif (decide (a.1 > (0:Int))) then
 some true
 else
 bif (a.1 == (0:Int)) then
 some (decide (a.2 ≥ (9223372036854775808:Int)))
 else
 some false
def f81_j2 (a : Int×Int) : Option (Sum Unit Int) :=
 bindF (f81_j3 a) fun z3 =>
 bif z3 then
 some (Sum.inr (9223372036854775807:Int))
 else
 bif (decide (a.1 < (-1:Int))) then
 some (Sum.inr (-9223372036854775808:Int))
 else
 bif (a.1 == (-1:Int)) then
 bif (decide (a.2 < (9223372036854775808:Int))) then
 some (Sum.inr (-9223372036854775808:Int))
 else
 some (Sum.inl ())
 else
 some (Sum.inl ())
def f81 (a : Int×Int) : Option Int :=
 bindF (f81_j2 a) fun z2 =>
 sumF z2 (fun z2a =>
 some (i64.wrap a.2)) (fun z2b =>
 some z2b)
def C81 : Con where
 X := Int×Int
 Y := Int
 e := 0
 args x := [.dat T5 x]
 hin x := []
 F x := f81 x
 ret y := [.dat T2 y]
 hout y := []
 nout := 0
theorem C81_vc (a : Int×Int) (y:Int) (q : f81 a = some y) : VC Tryz.f81 C81 a y := by
 unfold f81 at q
 refine OL ?_
 obtain ⟨z2,hz2,q⟩ := bE q
 refine OQ ⟨Sum.elim (fun z2a=>[(0,⟨[(1,P0 0 0)],[(0,.cells [(.d T2 a.1),(.d T4 a.2)])],1⟩)]) (fun z2b=>[(1,⟨[(2,.dat T2 z2b)],[],0⟩)]) z2,?_,?_⟩
 ·have q := hz2
  clear hz2
  unfold f81_j2 at q
  obtain ⟨z3,hz3,q⟩ := bE q
  refine OQ ⟨[(0,⟨[(1,P0 0 0),(3,.dat .bool z3)],[(0,.cells [(.d T2 a.1),(.d T4 a.2)])],1⟩)],?_,?_⟩
  ·have q := hz3
   clear hz3
   unfold f81_j3 at q
   refine cN q (fun q=>?_) (fun q=>?_)
   ·refine gY (gY (gY (cI q (fun q=>?_) (fun q=>?_))))
    ·refine gX (gX (gY (cT (cF ?_))))
     cases sE q
     refine E4 [(0,some 0)] (R2 (AJ (AI rfl TV)))
    refine gM (gM (gY (cF (cF ?_))))
    cases sE q
    refine E4 [(0,some 0)] (R2 (AJ (AI rfl TV)))
   refine gN (gN (gN (gN (cT ?_))))
   cases sE q
   refine E4 [(0,some 0)] (R2 (AJ (AI rfl TV)))
  refine AI (cI q (fun q=>?_) (fun q=>?_)) TV
  ·cases sE q
   refine OL (E4 [] (R2 (AI TV TV)))
  refine OL (cN q (fun q=>?_) (fun q=>?_))
  ·refine gY (gY (gY (cI q (fun q=>?_) (fun q=>?_))))
   ·refine gX (gX (gY (cT (cF (cI q (fun q=>?_) (fun q=>?_))))))
    ·cases sE q
     refine OL (E4 [] (R2 (AI TV TV)))
    cases sE q
    refine E4 [(0,some 0)] (AI rfl (AJ (AI rfl TV)))
   refine gM (gM (gY (cF (cF (cF ?_)))))
   cases sE q
   refine E4 [(0,some 0)] (AI rfl (AJ (AI rfl TV)))
  refine gN (gN (gN (gN (cT (cT (OL ?_))))))
  cases sE q
  refine E4 [] (R2 (AI TV TV))
 rcases z2 with z2a | z2b
 ·dsimp only [sumF] at q
  refine AI (OL ?_) TV
  cases sE q
  refine AI rfl (E4 [] (R2 (AI TV TV)))
 dsimp only [sumF] at q
 refine AI ?_ TV
 cases sE q
 refine AI rfl (E4 [] (R2 (AI TV TV)))
theorem C81_holds : HP C81 81 := hH Tryz.f81 (by kernel_rfl) rfl (fun x y q=>C81_vc x y q)
theorem f81_in : InP 81 := inP (by kernel_rfl)
def f76 (s_top:Int) (s_low_Hi:Int) (s_low_Lo:Int) (n:Int) : Option (Int×Int×Int×Int) :=
 bif (s_top == (Int.fdiv s_low_Hi (2 ^ min (Int.toNat (63:Int)) i64.bits))) then
 bindF (f111 (s_low_Hi,s_low_Lo) n) fun q1_11 =>
 bindF (f81 (q1_11.1,q1_11.2)) fun r1 =>
 some (r1,s_top,s_low_Hi,s_low_Lo)
 else
 bif (decide (s_top < (0:Int))) then
 some ((-9223372036854775808:Int),s_top,s_low_Hi,s_low_Lo)
 else
 some ((9223372036854775807:Int),s_top,s_low_Hi,s_low_Lo)
def C76 : Con where
 X := Int×Int×Int×Int
 Y := Int×Int×Int×Int
 e := 1
 args x := [P0 0 0,.dat T2 x.2.2.2]
 hin x := [(0,.cells [(.d T2 x.1),(.d T2 x.2.1),(.d T4 x.2.2.1)])]
 F x := f76 x.1 x.2.1 x.2.2.1 x.2.2.2
 ret y := [.dat T2 y.1]
 hout y := [(0,.cells [(.d T2 y.2.1),(.d T2 y.2.2.1),(.d T4 y.2.2.2)])]
 nout := 1
theorem C76_vc (s_top:Int) (s_low_Hi:Int) (s_low_Lo:Int) (n:Int) (y : Int×Int×Int×Int) (q : f76 s_top s_low_Hi s_low_Lo n = some y) : VE Tryz.f76 1 C76 (s_top,s_low_Hi,s_low_Lo,n) y := by
 unfold f76 at q
 refine OL (OL (OL (EI (.take 0 (.take 1 (.take 2 (.take 3 (.take 4 (.take 5 (.take 6 (.take 7 (.take 8 (.take 9 (.take 10 (.take 11 .done)))))))))))) (EI [] (EI [] (AI rfl (AI (by decide) (cI q (fun q=>?_) (fun q=>?_)))))))))
 ·refine OL ?_
  obtain ⟨q1_11,hq1_11,q⟩ := bE q
  refine OL (AI f111_in (cV (cQ C111 ((s_low_Hi,s_low_Lo),n) q1_11 [] false C111_holds hq1_11 rfl rfl (R3 (K0 ?_)))))
  obtain ⟨r1,hr1,q⟩ := bE q
  refine OL (AI f81_in (cV (cQ C81 (q1_11.1,q1_11.2) r1 [] false C81_holds hr1 rfl rfl (R2 (K0 ?_)))))
  cases sE q
  refine AI rfl (E4 [(0,some 0)] (R2 (AI TV (AI rfl TV))))
 refine OL (cI q (fun q=>?_) (fun q=>?_))
 ·cases sE q
  refine OL (AI rfl (E4 [(0,some 0)] (R2 (AI TV (AI rfl TV)))))
 cases sE q
 refine OL (AI rfl (E4 [(0,some 0)] (R2 (AI TV (AI rfl TV)))))
theorem C76_holds : HP C76 76 := hH Tryz.f76 (by kernel_rfl) rfl (fun x y q=>C76_vc x.1 x.2.1 x.2.2.1 x.2.2.2 y q)
theorem f76_in : InP 76 := inP (by kernel_rfl)
def f71_l1 (a : LI) (b : LI) (go : (Int×Int×Int×Int) → Option (Int×Int×Int)) (v12:Int) (c0_0:Int) (c0_1:Int) (c0_2:Int) : Option (Int×Int×Int) :=
 bif (decide (v12 < (if (List.length b:Int) < (List.length a:Int) then (List.length b:Int) else (List.length a:Int)))) then
 guardF (0 ≤ v12 ∧ v12 < (List.length a:Int)) <|
 guardF (0 ≤ v12 ∧ v12 < (List.length b:Int)) <|
 bindF (f75 c0_0 c0_1 c0_2 (rd (0:Int) a v12) (rd (0:Int) b v12)) fun q5_8 =>
 go ((i64.wrap (v12 + (1:Int))),q5_8.1,q5_8.2.1,q5_8.2.2)
 else
 some (c0_0,c0_1,c0_2)
def f71 (a : LI) (b : LI) : Option Int :=
 bindF (loopF (fun go x=>f71_l1 a b go x.1 x.2.1 x.2.2.1 x.2.2.2) fuelN ((0:Int),(0:Int),(0:Int),(0:Int))) fun z1 =>
 bindF (f76 z1.1 z1.2.1 z1.2.2 (32:Int)) fun r2 =>
 some r2.1
def C71 : Con where
 X := LI×LI
 Y := Int
 e := 0
 args x := [.dat T1 x.1,.dat T1 x.2]
 hin x := []
 F x := f71 x.1 x.2
 ret y := [.dat T2 y]
 hout y := []
 nout := 0
theorem C71_vc (a : LI) (b : LI) (y:Int) (q : f71 a b = some y) : VC Tryz.f71 C71 (a,b) y := by
 unfold f71 at q
 refine OL (OL (OL (OL ?_)))
 obtain ⟨z1,hz1,q⟩ := bE q
 refine lI (Int×Int×Int×Int) (Int×Int×Int) (fun x=>⟨[(0,.dat T1 a),(1,.dat T1 b),(5,P0 0 0),(11,.dat T2 (if (List.length b:Int) < (List.length a:Int) then (List.length b:Int) else (List.length a:Int))),(12,.dat T2 x.1)],[(0,.cells [(.d T2 x.2.1),(.d T2 x.2.2.1),(.d T4 x.2.2.2)])],1⟩) (fun z=>[(2,⟨[(5,P0 0 0)],[(0,.cells [(.d T2 z.1),(.d T2 z.2.1),(.d T4 z.2.2)])],1⟩)]) (loopF (fun go x=>f71_l1 a b go x.1 x.2.1 x.2.2.1 x.2.2.2)) fuelN ((0:Int),(0:Int),(0:Int),(0:Int)) z1 (AI hz1 (AI (E4 [(0,some 0)] (R5 (AJ (AI rfl TV)))) (AI (fun _ _ h=>lZ h) (AI (fun m=>curI (fun v12=>curI (fun c0_0=>curI (fun c0_1=>fun c0_2 z q=>?_)))) ?_))))
 ·have q : f71_l1 a b (loopF (fun go x=>f71_l1 a b go x.1 x.2.1 x.2.2.1 x.2.2.2) m) v12 c0_0 c0_1 c0_2 = some z := q
  unfold f71_l1 at q
  refine OL (OL (cI q (fun q=>?_) (fun q=>?_)))
  ·refine OL (OL (EI (.take 0 (.take 1 (.take 2 (.take 3 (.take 4 (.take 5 (.take 6 (.take 7 (.alt 8 .done .done))))))))) (EI [] (EI [] (AI rfl (gI q (fun q=>?_)))))))
   refine gI q (fun q=>?_)
   refine AI TV ?_
   obtain ⟨q5_8,hq5_8,q⟩ := bE q
   refine OL (AI f75_in (cV (cQ C75 (c0_0,c0_1,c0_2,(rd (0:Int) a v12),(rd (0:Int) b v12)) q5_8 [(0,some 0)] false C75_holds hq5_8 rfl rfl (R2 (AI NH (R2 (AJ (AJ (EI ((i64.wrap (v12 + (1:Int))),q5_8.1,q5_8.2.1,q5_8.2.2) (AI q (E4 [(0,some 0)] (R5 (AJ (AI rfl TV))))))))))))))
  cases sE q
  refine E4 [(0,some 0)] (AI rfl (AJ (AI rfl TV)))
 refine AI (OL ?_) TV
 obtain ⟨r2,hr2,q⟩ := bE q
 refine OL (AI f76_in (cV (cQ C76 (z1.1,z1.2.1,z1.2.2,(32:Int)) r2 [(0,some 0)] false C76_holds hr2 rfl rfl (AI rfl (AI NH (R2 (AJ (AJ ?_))))))))
 cases sE q
 refine AI rfl (E4 [] (R2 (AI TV TV)))
theorem C71_holds : HP C71 71 := hH Tryz.f71 (by kernel_rfl) rfl (fun x y q=>C71_vc x.1 x.2 y q)
theorem f71_in : InP 71 := inP (by kernel_rfl)
def f38_j4 (a : LI×LI) (b : LI×LI) : Option Bool :=
 bindF (f21 (a.1,a.2)) fun r9 =>
 bif (!r9) then
 some true
 else
 bindF (f21 (b.1,b.2)) fun r10 =>
 some (!r10)
def f38_j5 (a : LI×LI) (b : LI×LI) : Option Bool :=
 bindF (f69 (a.1,a.2)) fun q3_1 =>
 bif (!q3_1) then
 some true
 else
 bindF (f69 (b.1,b.2)) fun q3_5 =>
 bif (!q3_5) then
 some true
 else
 guardF (0 ≤ (1:Int) ∧ (1:Int) < (List.length a.1:Int)) <|
 guardF (0 ≤ (0:Int) ∧ (0:Int) < (List.length b.1:Int)) <|
 some ((rd (0:Int) a.1 (1:Int)) != (rd (0:Int) b.1 (0:Int)))
def f38_j3 (a : LI×LI) (b : LI×LI) : Option (Sum Unit Int) :=
 bindF (f38_j4 a b) fun z8 =>
 bif z8 then
 some (Sum.inr (1:Int))
 else
 bindF (f38_j5 a b) fun z11 =>
 bif z11 then
 some (Sum.inr (4:Int))
 else
 some (Sum.inl ())
def f38_l9 (a : LI×LI) (b : LI×LI) (r12 : Int×LI×LI) (v74:Int) (go : (Int×LI) → Option LI) (v78:Int) (l5_2 : LI) : Option LI :=
 bif (decide (v78 < (rd (0:Int) b.1 (1:Int)))) then
 guardF (0 ≤ (i64.wrap (v74 * (rd (0:Int) a.1 (1:Int)))) ∧ (i64.wrap (v74 * (rd (0:Int) a.1 (1:Int)))) ≤ (i64.wrap ((i64.wrap (v74 + (1:Int))) * (rd (0:Int) a.1 (1:Int)))) ∧ (i64.wrap ((i64.wrap (v74 + (1:Int))) * (rd (0:Int) a.1 (1:Int)))) ≤ (List.length a.2:Int)) <|
 guardF (0 ≤ (i64.wrap (v78 * (rd (0:Int) a.1 (1:Int)))) ∧ (i64.wrap (v78 * (rd (0:Int) a.1 (1:Int)))) ≤ (i64.wrap ((i64.wrap (v78 + (1:Int))) * (rd (0:Int) a.1 (1:Int)))) ∧ (i64.wrap ((i64.wrap (v78 + (1:Int))) * (rd (0:Int) a.1 (1:Int)))) ≤ (List.length r12.2.2:Int)) <|
 bindF (f71 (List.drop (Int.toNat (i64.wrap (v74 * (rd (0:Int) a.1 (1:Int))))) (List.take (Int.toNat (i64.wrap ((i64.wrap (v74 + (1:Int))) * (rd (0:Int) a.1 (1:Int))))) a.2)) (List.drop (Int.toNat (i64.wrap (v78 * (rd (0:Int) a.1 (1:Int))))) (List.take (Int.toNat (i64.wrap ((i64.wrap (v78 + (1:Int))) * (rd (0:Int) a.1 (1:Int))))) r12.2.2))) fun q16_27 =>
 guardF (0 ≤ (i64.wrap ((i64.wrap (v74 * (rd (0:Int) b.1 (1:Int)))) + v78)) ∧ (i64.wrap ((i64.wrap (v74 * (rd (0:Int) b.1 (1:Int)))) + v78)) < (List.length l5_2:Int)) <|
 go ((i64.wrap (v78 + (1:Int))),(List.set l5_2 (Int.toNat (i64.wrap ((i64.wrap (v74 * (rd (0:Int) b.1 (1:Int)))) + v78))) q16_27))
 else
 some l5_2
def f38_l8 (a : LI×LI) (b : LI×LI) (r12 : Int×LI×LI) (go : (Int×LI) → Option LI) (v74:Int) (l5 : LI) : Option LI :=
 bif (decide (v74 < (rd (0:Int) a.1 (0:Int)))) then
 bindF (loopF (fun go x=>f38_l9 a b r12 v74 go x.1 x.2) fuelN ((0:Int),l5)) fun z16 =>
 go ((i64.wrap (v74 + (1:Int))),z16)
 else
 some l5
def f38 (a : LI×LI) (b : LI×LI) : Option (Int×LI×LI) :=
 bindF (f38_j3 a b) fun z6 =>
 sumF z6 (fun z6a =>
 guardF (0 ≤ (0:Int) ∧ (0:Int) < (List.length a.1:Int)) <|
 guardF (0 ≤ (1:Int) ∧ (1:Int) < (List.length a.1:Int)) <|
 guardF (0 ≤ (1:Int) ∧ (1:Int) < (List.length b.1:Int)) <|
 bindF (f70 ([(rd (0:Int) a.1 (0:Int)),(rd (0:Int) b.1 (1:Int))]) (0:Int)) fun q5_14 =>
 bif (q5_14.1 != (0:Int)) then
 some ((2:Int),[],[])
 else
 bindF (f41 (b.1,b.2)) fun r12 =>
 bindF (loopF (fun go x=>f38_l8 a b r12 go x.1 x.2) fuelN ((0:Int),q5_14.2.2)) fun z15 =>
 some ((0:Int),q5_14.2.1,z15)) (fun z6b =>
 some (z6b,[],[]))
def C38 : Con where
 X := (LI×LI)×(LI×LI)
 Y := Int×LI×LI
 e := 0
 args x := [.dat T3 x.1,.dat T3 x.2]
 hin x := []
 F x := f38 x.1 x.2
 ret y := [.raw true [(.osl 0),(.osl 1)],.dat T2 y.1]
 hout y := [(0,.arr 3 T2 y.2.1),(1,.arr 33 T2 y.2.2)]
 nout := 2
theorem C38_vc (a : LI×LI) (b : LI×LI) (y : Int×LI×LI) (q : f38 a b = some y) : VC Tryz.f38 C38 (a,b) y := by
 unfold f38 at q
 refine OL ?_
 obtain ⟨z6,hz6,q⟩ := bE q
 refine OQ ⟨Sum.elim (fun z6a=>[(0,⟨[(2,P0 0 0),(3,P0 1 0),(4,P0 2 0)],[(0,.cells [(.d T1 a.1),(.d T1 a.2)]),(1,.cells [(.d T1 b.1),(.d T1 b.2)]),(2,.cells [N0,N0])],3⟩)]) (fun z6b=>[(1,⟨[(4,P0 0 0),(5,.dat T2 z6b)],[(0,.cells [N0,N0])],1⟩)]) z6,?_,?_⟩
 ·have q := hz6
  clear hz6
  unfold f38_j3 at q
  obtain ⟨z8,hz8,q⟩ := bE q
  refine OQ ⟨[(0,⟨[(2,P0 0 0),(3,P0 1 0),(4,P0 2 0),(15,.dat .bool z8)],[(0,.cells [(.d T1 a.1),(.d T1 a.2)]),(1,.cells [(.d T1 b.1),(.d T1 b.2)]),(2,.cells [N0,N0])],3⟩)],?_,?_⟩
  ·have q := hz8
   clear hz8
   unfold f38_j4 at q
   obtain ⟨r9,hr9,q⟩ := bE q
   refine OL (AI f21_in (cV (cQ C21 (a.1,a.2) r9 [] false C21_holds hr9 rfl rfl (R2 (K0 (cN q (fun q=>?_) (fun q=>?_)))))))
   ·refine gY ?_
    obtain ⟨r10,hr10,q⟩ := bE q
    refine OL (AI f21_in (cV (cQ C21 (b.1,b.2) r10 [] false C21_holds hr10 rfl rfl (R2 (K0 (gY (cF ?_)))))))
    cases sE q
    refine E4 I3 (R2 (AI (R3 TV) (R3 TV)))
   refine gN (gN (cT ?_))
   cases sE q
   refine E4 I3 (R2 (AI (R3 TV) (R3 TV)))
  refine AI (cI q (fun q=>?_) (fun q=>?_)) TV
  ·refine OL (OL ?_)
   cases sE q
   refine E4 [(0,some 2)] (R2 (AJ (AI rfl TV)))
  obtain ⟨z11,hz11,q⟩ := bE q
  refine OQ ⟨[(0,⟨[(2,P0 0 0),(3,P0 1 0),(4,P0 2 0),(25,.dat .bool z11)],[(0,.cells [(.d T1 a.1),(.d T1 a.2)]),(1,.cells [(.d T1 b.1),(.d T1 b.2)]),(2,.cells [N0,N0])],3⟩)],?_,?_⟩
  ·have q := hz11
   clear hz11
   unfold f38_j5 at q
   refine EI (.take 0 (.alt 1 (.take 2 (.take 3 (.take 4 (.alt 5 (.take 6 (.take 7 (.take 8 (.take 9 (.take 10 (.take 11 (.take 12 (.take 13 (.take 14 (.take 15 (.take 16 (.take 17 (.take 18 (.take 19 .done)))))))))))))) .done)))) .done)) (EI [] (EI [] (AI rfl (AI TV ?_))))
   obtain ⟨q3_1,hq3_1,q⟩ := bE q
   refine OL (AI f69_in (cV (cQ C69 (a.1,a.2) q3_1 [] false C69_holds hq3_1 rfl rfl (R2 (K0 (cN q (fun q=>?_) (fun q=>?_)))))))
   ·refine AI TV (gY ?_)
    obtain ⟨q3_5,hq3_5,q⟩ := bE q
    refine OL (AI f69_in (cV (cQ C69 (b.1,b.2) q3_5 [] false C69_holds hq3_5 rfl rfl (R2 (K0 (gY (cF (cN q (fun q=>?_) (fun q=>?_)))))))))
    ·refine gY (gY (gI q (fun q=>?_)))
     refine gY (gY (gY (gY (gI q (fun q=>?_)))))
     refine gY (gY (cF ?_))
     cases sE q
     refine E4 I3 (R2 (AI (R3 TV) (R3 TV)))
    refine gN (gN (gN (gN (gN (gN (gN (gN (cT ?_))))))))
    cases sE q
    refine E4 I3 (R2 (AI (R3 TV) (R3 TV)))
   refine AI TV (gN (gN (cT (gN (gN (gN (gN (gN (gN (gN (gN (gN (cT ?_)))))))))))))
   cases sE q
   refine E4 I3 (R2 (AI (R3 TV) (R3 TV)))
  refine AI (cI q (fun q=>?_) (fun q=>?_)) TV
  ·refine OL (OL ?_)
   cases sE q
   refine E4 [(0,some 2)] (R2 (AJ (AI rfl TV)))
  cases sE q
  refine E4 I3 (AI rfl (AI (R3 TV) (R3 TV)))
 rcases z6 with z6a | z6b
 ·dsimp only [sumF] at q
  refine AI (OL (EI (.take 0 (.take 1 (.take 2 (.take 3 (.take 4 (.take 5 (.take 6 (.take 7 (.take 8 (.take 9 (.take 10 (.take 11 (.take 12 (.take 13 (.take 14 .done))))))))))))))) (EI [] (EI [] (AI rfl (gI q (fun q=>?_))))))) TV
  refine gI q (fun q=>?_)
  refine gI q (fun q=>?_)
  refine OL (OL ?_)
  obtain ⟨q5_14,hq5_14,q⟩ := bE q
  refine OL (AI f70_in (cV (cQ C70 ([(rd (0:Int) a.1 (0:Int)),(rd (0:Int) b.1 (1:Int))],(0:Int)) q5_14 [] true C70_holds hq5_14 rfl rfl (R2 (AI (fun _=>rfl) (R2 (AI TV (AI TV (OL (OL (OL (cI q (fun q=>?_) (fun q=>?_)))))))))))))
  ·refine OL (OL ?_)
   cases sE q
   refine AI rfl (E4 [(0,none),(1,none)] (R2 (AJ (R2 TV))))
  refine OL ?_
  obtain ⟨r12,hr12,q⟩ := bE q
  refine OL (AI f41_in (cV (cQ C41 (b.1,b.2) r12 [] false C41_holds hr12 rfl rfl (R2 (K0 (OL (OL (OL ?_))))))))
  obtain ⟨z15,hz15,q⟩ := bE q
  refine lI (Int×LI) LI (fun x=>⟨[(2,P0 0 0),(4,P0 1 0),(7,.dat T2 (rd (0:Int) a.1 (1:Int))),(8,.dat T2 (rd (0:Int) b.1 (1:Int))),(9,P0 2 0),(11,P0 3 0),(73,.dat T2 (rd (0:Int) a.1 (0:Int))),(74,.dat T2 x.1)],[(0,.cells [(.d T1 a.1),(.d T1 a.2)]),(1,.cells [N0,N0]),(2,.cells [(.osl 4),(.osl 5)]),(3,.cells [(.osl 6),(.d T1 r12.2.2)]),(4,.arr 3 T2 q5_14.2.1),(5,.arr 33 T2 x.2),(6,.arr 3 T2 r12.2.1)],7⟩) (fun z=>[(3,⟨[(4,P0 0 0),(9,P0 1 0)],[(0,.cells [N0,N0]),(1,.cells [(.osl 2),(.osl 3)]),(2,.arr 3 T2 q5_14.2.1),(3,.arr 33 T2 z)],4⟩)]) (loopF (fun go x=>f38_l8 a b r12 go x.1 x.2)) fuelN ((0:Int),q5_14.2.2) z15 (AI hz15 (AI (EI [] (EI [] (EI [] (EI [8] (EI [(0,some 0),(1,some 2),(2,some 6),(3,some 9),(4,some 4),(5,some 5),(6,some 7)] (R5 (AI (R4 TV) (R7 TV)))))))) (AI (fun _ _ h=>lZ h) (AI (fun m=>curI (fun v74=>fun l5 z q=>?_)) ?_))))
  ·have q : f38_l8 a b r12 (loopF (fun go x=>f38_l8 a b r12 go x.1 x.2) m) v74 l5 = some z := q
   unfold f38_l8 at q
   refine OL (OL (cI q (fun q=>?_) (fun q=>?_)))
   ·refine OL (OL (OL ?_))
    obtain ⟨z16,hz16,q⟩ := bE q
    refine lI (Int×LI) LI (fun x=>⟨[(2,P0 0 0),(4,P0 1 0),(7,.dat T2 (rd (0:Int) a.1 (1:Int))),(8,.dat T2 (rd (0:Int) b.1 (1:Int))),(9,P0 2 0),(11,P0 3 0),(13,.dat T2 v74),(73,.dat T2 (rd (0:Int) a.1 (0:Int))),(74,.dat T2 v74),(77,.dat T2 (rd (0:Int) b.1 (1:Int))),(78,.dat T2 x.1)],[(0,.cells [(.d T1 a.1),(.d T1 a.2)]),(1,.cells [N0,N0]),(2,.cells [(.osl 4),(.osl 5)]),(3,.cells [(.osl 6),(.d T1 r12.2.2)]),(4,.arr 3 T2 q5_14.2.1),(5,.arr 33 T2 x.2),(6,.arr 3 T2 r12.2.1)],7⟩) (fun z=>[(5,⟨[(2,P0 0 0),(4,P0 1 0),(7,.dat T2 (rd (0:Int) a.1 (1:Int))),(8,.dat T2 (rd (0:Int) b.1 (1:Int))),(9,P0 2 0),(11,P0 3 0),(73,.dat T2 (rd (0:Int) a.1 (0:Int))),(74,.dat T2 v74)],[(0,.cells [(.d T1 a.1),(.d T1 a.2)]),(1,.cells [N0,N0]),(2,.cells [(.osl 4),(.osl 5)]),(3,.cells [(.osl 6),(.d T1 r12.2.2)]),(4,.arr 3 T2 q5_14.2.1),(5,.arr 33 T2 z),(6,.arr 3 T2 r12.2.1)],7⟩)]) (loopF (fun go x=>f38_l9 a b r12 v74 go x.1 x.2)) fuelN ((0:Int),l5) z16 (AI hz16 (AI (E4 I7 (R8 (AI (R4 TV) (R7 TV)))) (AI (fun _ _ h=>lZ h) (AI (fun m=>curI (fun v78=>fun l5_2 z q=>?_)) ?_))))
    ·have q : f38_l9 a b r12 v74 (loopF (fun go x=>f38_l9 a b r12 v74 go x.1 x.2) m) v78 l5_2 = some z := q
     unfold f38_l9 at q
     refine OL (OL (cI q (fun q=>?_) (fun q=>?_)))
     ·refine OL (OL (EI (.take 0 (.take 1 (.take 2 (.take 3 (.take 4 (.take 5 (.take 6 (.take 7 (.take 8 (.take 9 (.take 10 (.take 11 (.take 12 (.take 13 (.take 14 (.take 15 (.take 16 (.take 17 (.take 18 (.take 19 (.take 20 (.take 21 (.take 22 (.take 23 (.take 24 (.take 25 (.alt 26 (.alt 27 (.take 28 (.alt 29 .done .done)) .done) .done))))))))))))))))))))))))))) (EI [] (EI [] (AI rfl (gI q (fun q=>?_)))))))
      refine AI TV (gI q (fun q=>?_))
      refine AI TV ?_
      obtain ⟨q16_27,hq16_27,q⟩ := bE q
      refine OL (AI f71_in (cV (cQ C71 ((List.drop (Int.toNat (i64.wrap (v74 * (rd (0:Int) a.1 (1:Int))))) (List.take (Int.toNat (i64.wrap ((i64.wrap (v74 + (1:Int))) * (rd (0:Int) a.1 (1:Int))))) a.2)),(List.drop (Int.toNat (i64.wrap (v78 * (rd (0:Int) a.1 (1:Int))))) (List.take (Int.toNat (i64.wrap ((i64.wrap (v78 + (1:Int))) * (rd (0:Int) a.1 (1:Int))))) r12.2.2))) q16_27 [] false C71_holds hq16_27 rfl rfl (R2 (K0 (gI q (fun q=>?_)))))))
      refine AI TV (OL (EI ((i64.wrap (v78 + (1:Int))),(List.set l5_2 (Int.toNat (i64.wrap ((i64.wrap (v74 * (rd (0:Int) b.1 (1:Int)))) + v78))) q16_27)) (AI q (E4 I7 (R8 (AI (R4 TV) (R7 TV)))))))
     cases sE q
     refine E4 I7 (R5 (AI (R4 TV) (R7 TV)))
    refine AI (EI ((i64.wrap (v74 + (1:Int))),z16) (AI q (E4 I7 (R5 (AI (R4 TV) (R7 TV)))))) TV
   cases sE q
   refine E4 [(0,some 1),(1,some 2),(2,some 4),(3,some 5)] (AI rfl (AI (R2 TV) (R4 TV)))
  refine AI (OL (OL ?_)) TV
  cases sE q
  refine AI rfl (E4 [(0,some 2),(1,some 3)] (R2 (AJ (R2 TV))))
 dsimp only [sumF] at q
 refine AI ?_ TV
 cases sE q
 refine AI rfl (E4 [(0,none),(1,none)] (R2 (AJ (R2 TV))))
theorem C38_holds : HP C38 38 := hH Tryz.f38 (by kernel_rfl) rfl (fun x y q=>C38_vc x.1 x.2 y q)
theorem f38_in : InP 38 := inP (by kernel_rfl)
def f72 (step:Int) : Option Bool :=
 bif (decide (step ≥ (1:Int))) then
 some (decide (step ≤ (64:Int)))
 else
 some false
def C72 : Con where
 X := Int
 Y := Bool
 e := 0
 args x := [.dat T2 x]
 hin x := []
 F x := f72 x
 ret y := [.dat .bool y]
 hout y := []
 nout := 0
theorem C72_vc (step:Int) (y : Bool) (q : f72 step = some y) : VC Tryz.f72 C72 step y := by
 unfold f72 at q
 refine OL (OL (cI q (fun q=>?_) (fun q=>?_)))
 ·refine gX (cT ?_)
  cases sE q
  refine AI rfl (E4 [] (R2 (AI TV TV)))
 refine gM (cF ?_)
 cases sE q
 refine AI rfl (E4 [] (R2 (AI TV TV)))
theorem C72_holds : HP C72 72 := hH Tryz.f72 (by kernel_rfl) rfl (fun x y q=>C72_vc x y q)
theorem f72_in : InP 72 := inP (by kernel_rfl)
def f73 (long:Int) (wide:Int) (step:Int) : Option Int :=
 bif (decide (wide > long)) then
 some (0:Int)
 else
 guardF (step ≠ 0) <|
 some (i64.wrap ((i64.wrap (Int.tdiv (i64.wrap (long - wide)) step)) + (1:Int)))
def C73 : Con where
 X := Int×Int×Int
 Y := Int
 e := 0
 args x := [.dat T2 x.1,.dat T2 x.2.1,.dat T2 x.2.2]
 hin x := []
 F x := f73 x.1 x.2.1 x.2.2
 ret y := [.dat T2 y]
 hout y := []
 nout := 0
theorem C73_vc (long:Int) (wide:Int) (step:Int) (y:Int) (q : f73 long wide step = some y) : VC Tryz.f73 C73 (long,wide,step) y := by
 unfold f73 at q
 refine OL (OL (OL (cI q (fun q=>?_) (fun q=>?_))))
 ·cases sE q
  refine OL (AI rfl (E4 [] (R2 (AI TV TV))))
 refine OL (gI q (fun q=>?_))
 cases sE q
 refine AI rfl (E4 [] (R2 (AI TV TV)))
theorem C73_holds : HP C73 73 := hH Tryz.f73 (by kernel_rfl) rfl (fun x y q=>C73_vc x.1 x.2.1 x.2.2 y q)
theorem f73_in : InP 73 := inP (by kernel_rfl)
def f74 (d : LI) : Option (Int×LI×LI) :=
 bindF (f70 d (0:Int)) fun r1 =>
 bif (r1.1 != (0:Int)) then
 some ((2:Int),[],[])
 else
 some ((0:Int),r1.2.1,r1.2.2)
def C74 : Con where
 X := LI
 Y := Int×LI×LI
 e := 0
 args x := [.dat T1 x]
 hin x := []
 F x := f74 x
 ret y := [.raw true [(.osl 0),(.osl 1)],.dat T2 y.1]
 hout y := [(0,.arr 3 T2 y.2.1),(1,.arr 33 T2 y.2.2)]
 nout := 2
theorem C74_vc (d : LI) (y : Int×LI×LI) (q : f74 d = some y) : VC Tryz.f74 C74 d y := by
 unfold f74 at q
 refine OL (OL ?_)
 obtain ⟨r1,hr1,q⟩ := bE q
 refine OL (AI f70_in (cV (cQ C70 (d,(0:Int)) r1 [] false C70_holds hr1 rfl rfl (R2 (K0 (OL (OL (OL (cI q (fun q=>?_) (fun q=>?_))))))))))
 ·refine OL (OL ?_)
  cases sE q
  refine AI rfl (E4 [(0,none),(1,none)] (R2 (AJ (R2 TV))))
 refine OL (OL ?_)
 cases sE q
 refine AI rfl (E4 [(0,some 1),(1,some 2)] (R2 (AJ (R2 TV))))
theorem C74_holds : HP C74 74 := hH Tryz.f74 (by kernel_rfl) rfl (fun x y q=>C74_vc x y q)
theorem f74_in : InP 74 := inP (by kernel_rfl)
def f39_j4 (a : LI×LI) (k : LI×LI) (step:Int) : Option Bool :=
 bindF (f21 (a.1,a.2)) fun r12 =>
 bif (!r12) then
 some true
 else
 bindF (f21 (k.1,k.2)) fun r13 =>
 bif (!r13) then
 some true
 else
 bindF (f72 step) fun r14 =>
 some (!r14)
def f39_j5 (a : LI×LI) (k : LI×LI) : Option Bool :=
 bif ((List.length a.1:Int) != (2:Int)) then
 some true
 else
 bif ((List.length k.1:Int) != (3:Int)) then
 some true
 else
 guardF (0 ≤ (1:Int) ∧ (1:Int) < (List.length k.1:Int)) <|
 guardF (0 ≤ (0:Int) ∧ (0:Int) < (List.length a.1:Int)) <|
 bif ((rd (0:Int) k.1 (1:Int)) != (rd (0:Int) a.1 (0:Int))) then
 some true
 else
 guardF (0 ≤ (2:Int) ∧ (2:Int) < (List.length k.1:Int)) <|
 guardF (0 ≤ (1:Int) ∧ (1:Int) < (List.length a.1:Int)) <|
 some (decide ((rd (0:Int) k.1 (2:Int)) > (rd (0:Int) a.1 (1:Int))))
def f39_j3 (a : LI×LI) (k : LI×LI) (step:Int) : Option (Sum Unit Int) :=
 bindF (f39_j4 a k step) fun z11 =>
 bif z11 then
 some (Sum.inr (1:Int))
 else
 bindF (f39_j5 a k) fun z15 =>
 bif z15 then
 some (Sum.inr (4:Int))
 else
 some (Sum.inl ())
def f39_l18 (a : LI×LI) (k : LI×LI) (step:Int) (q5_14:Int) (v102:Int) (v112:Int) (go : (Int×Int×Int×Int) → Option (Int×Int×Int)) (v116:Int) (c4_0_2:Int) (c4_1_2:Int) (c4_2_2:Int) : Option (Int×Int×Int) :=
 bif (decide (v116 < (rd (0:Int) k.1 (2:Int)))) then
 guardF (0 ≤ (i64.wrap ((i64.wrap ((i64.wrap (v112 * (rd (0:Int) a.1 (1:Int)))) + (i64.wrap ((Int.tmod v102 q5_14) * step)))) + v116)) ∧ (i64.wrap ((i64.wrap ((i64.wrap (v112 * (rd (0:Int) a.1 (1:Int)))) + (i64.wrap ((Int.tmod v102 q5_14) * step)))) + v116)) < (List.length a.2:Int)) <|
 guardF (0 ≤ (i64.wrap ((i64.wrap ((i64.wrap ((i64.wrap ((i64.wrap (Int.tdiv v102 q5_14)) * (rd (0:Int) a.1 (0:Int)))) + v112)) * (rd (0:Int) k.1 (2:Int)))) + v116)) ∧ (i64.wrap ((i64.wrap ((i64.wrap ((i64.wrap ((i64.wrap (Int.tdiv v102 q5_14)) * (rd (0:Int) a.1 (0:Int)))) + v112)) * (rd (0:Int) k.1 (2:Int)))) + v116)) < (List.length k.2:Int)) <|
 bindF (f75 c4_0_2 c4_1_2 c4_2_2 (rd (0:Int) a.2 (i64.wrap ((i64.wrap ((i64.wrap (v112 * (rd (0:Int) a.1 (1:Int)))) + (i64.wrap ((Int.tmod v102 q5_14) * step)))) + v116))) (rd (0:Int) k.2 (i64.wrap ((i64.wrap ((i64.wrap ((i64.wrap ((i64.wrap (Int.tdiv v102 q5_14)) * (rd (0:Int) a.1 (0:Int)))) + v112)) * (rd (0:Int) k.1 (2:Int)))) + v116)))) fun q21_26 =>
 go ((i64.wrap (v116 + (1:Int))),q21_26.1,q21_26.2.1,q21_26.2.2)
 else
 some (c4_0_2,c4_1_2,c4_2_2)
def f39_l17 (a : LI×LI) (k : LI×LI) (step:Int) (q5_14:Int) (v102:Int) (go : (Int×Int×Int×Int) → Option (Int×Int×Int)) (v112:Int) (c4_0:Int) (c4_1:Int) (c4_2:Int) : Option (Int×Int×Int) :=
 bif (decide (v112 < (rd (0:Int) a.1 (0:Int)))) then
 bindF (loopF (fun go x=>f39_l18 a k step q5_14 v102 v112 go x.1 x.2.1 x.2.2.1 x.2.2.2) fuelN ((0:Int),c4_0,c4_1,c4_2)) fun z29 =>
 go ((i64.wrap (v112 + (1:Int))),z29.1,z29.2.1,z29.2.2)
 else
 some (c4_0,c4_1,c4_2)
def f39_l14 (a : LI×LI) (k : LI×LI) (step:Int) (q5_14:Int) (r16 : Int×LI×LI) (go : (Int×LI) → Option LI) (v102:Int) (l5 : LI) : Option LI :=
 bif (decide (v102 < (List.length r16.2.2:Int))) then
 guardF (q5_14 ≠ 0) <|
 guardF (q5_14 ≠ 0) <|
 bindF (loopF (fun go x=>f39_l17 a k step q5_14 v102 go x.1 x.2.1 x.2.2.1 x.2.2.2) fuelN ((0:Int),(0:Int),(0:Int),(0:Int))) fun z28 =>
 bindF (f76 z28.1 z28.2.1 z28.2.2 (32:Int)) fun q24_3 =>
 guardF (0 ≤ v102 ∧ v102 < (List.length l5:Int)) <|
 go ((i64.wrap (v102 + (1:Int))),(List.set l5 (Int.toNat v102) q24_3.1))
 else
 some l5
def f39 (a : LI×LI) (k : LI×LI) (step:Int) : Option (Int×LI×LI) :=
 bindF (f39_j3 a k step) fun z8 =>
 sumF z8 (fun z8a =>
 guardF (0 ≤ (0:Int) ∧ (0:Int) < (List.length a.1:Int)) <|
 guardF (0 ≤ (1:Int) ∧ (1:Int) < (List.length a.1:Int)) <|
 guardF (0 ≤ (2:Int) ∧ (2:Int) < (List.length k.1:Int)) <|
 bindF (f73 (rd (0:Int) a.1 (1:Int)) (rd (0:Int) k.1 (2:Int)) step) fun q5_14 =>
 guardF (0 ≤ (0:Int) ∧ (0:Int) < (List.length k.1:Int)) <|
 bindF (f74 ([(rd (0:Int) k.1 (0:Int)),q5_14])) fun r16 =>
 bif (r16.1 != (0:Int)) then
 some (r16.1,[],[])
 else
 bindF (loopF (fun go x=>f39_l14 a k step q5_14 r16 go x.1 x.2) fuelN ((0:Int),r16.2.2)) fun z25 =>
 some ((0:Int),r16.2.1,z25)) (fun z8b =>
 some (z8b,[],[]))
def C39 : Con where
 X := (LI×LI)×(LI×LI)×Int
 Y := Int×LI×LI
 e := 0
 args x := [.dat T3 x.1,.dat T3 x.2.1,.dat T2 x.2.2]
 hin x := []
 F x := f39 x.1 x.2.1 x.2.2
 ret y := [.raw true [(.osl 0),(.osl 1)],.dat T2 y.1]
 hout y := [(0,.arr 3 T2 y.2.1),(1,.arr 33 T2 y.2.2)]
 nout := 2
theorem C39_vc (a : LI×LI) (k : LI×LI) (step:Int) (y : Int×LI×LI) (q : f39 a k step = some y) : VC Tryz.f39 C39 (a,k,step) y := by
 unfold f39 at q
 refine OL ?_
 obtain ⟨z8,hz8,q⟩ := bE q
 refine OQ ⟨Sum.elim (fun z8a=>[(0,⟨[(2,.dat T2 step),(3,P0 0 0),(4,P0 1 0),(6,P0 2 0)],[(0,.cells [(.d T1 a.1),(.d T1 a.2)]),(1,.cells [(.d T1 k.1),(.d T1 k.2)]),(2,.cells [N0,N0])],3⟩)]) (fun z8b=>[(1,⟨[(6,P0 0 0),(7,.dat T2 z8b)],[(0,.cells [N0,N0])],1⟩)]) z8,?_,?_⟩
 ·have q := hz8
  clear hz8
  unfold f39_j3 at q
  obtain ⟨z11,hz11,q⟩ := bE q
  refine OQ ⟨[(0,⟨[(2,.dat T2 step),(3,P0 0 0),(4,P0 1 0),(6,P0 2 0),(20,.dat .bool z11)],[(0,.cells [(.d T1 a.1),(.d T1 a.2)]),(1,.cells [(.d T1 k.1),(.d T1 k.2)]),(2,.cells [N0,N0])],3⟩)],?_,?_⟩
  ·have q := hz11
   clear hz11
   unfold f39_j4 at q
   obtain ⟨r12,hr12,q⟩ := bE q
   refine OL (AI f21_in (cV (cQ C21 (a.1,a.2) r12 [] false C21_holds hr12 rfl rfl (R2 (K0 (cN q (fun q=>?_) (fun q=>?_)))))))
   ·refine gY ?_
    obtain ⟨r13,hr13,q⟩ := bE q
    refine OL (AI f21_in (cV (cQ C21 (k.1,k.2) r13 [] false C21_holds hr13 rfl rfl (R2 (K0 (gY (cF (cN q (fun q=>?_) (fun q=>?_)))))))))
    ·refine gY ?_
     obtain ⟨r14,hr14,q⟩ := bE q
     refine OL (AI f72_in (cV (cQ C72 step r14 [] false C72_holds hr14 rfl rfl (AI rfl (K0 (gY (cF ?_)))))))
     cases sE q
     refine E4 I3 (R3 (AI (R3 TV) (R3 TV)))
    refine gN (gN (cT ?_))
    cases sE q
    refine E4 I3 (R3 (AI (R3 TV) (R3 TV)))
   refine gN (gN (cT (gN (gN (gN (cT ?_))))))
   cases sE q
   refine E4 I3 (R3 (AI (R3 TV) (R3 TV)))
  refine AI (cI q (fun q=>?_) (fun q=>?_)) TV
  ·refine OL (OL ?_)
   cases sE q
   refine E4 [(0,some 2)] (R2 (AJ (AI rfl TV)))
  obtain ⟨z15,hz15,q⟩ := bE q
  refine OQ ⟨[(0,⟨[(2,.dat T2 step),(3,P0 0 0),(4,P0 1 0),(6,P0 2 0),(35,.dat .bool z15)],[(0,.cells [(.d T1 a.1),(.d T1 a.2)]),(1,.cells [(.d T1 k.1),(.d T1 k.2)]),(2,.cells [N0,N0])],3⟩)],?_,?_⟩
  ·have q := hz15
   clear hz15
   unfold f39_j5 at q
   refine EI (.take 0 (.take 1 (.take 2 (.take 3 (.take 4 (.take 5 (.take 6 (.take 7 (.take 8 (.take 9 (.take 10 (.take 11 (.take 12 (.take 13 (.take 14 (.take 15 (.take 16 (.take 17 (.take 18 (.take 19 (.take 20 (.take 21 (.take 22 (.take 23 (.take 24 (.take 25 (.take 26 (.take 27 (.take 28 (.take 29 (.take 30 (.take 31 (.take 32 .done))))))))))))))))))))))))))))))))) (EI [] (EI [] (AI rfl (cN q (fun q=>?_) (fun q=>?_)))))
   ·refine gY (gY (gY (cF (cN q (fun q=>?_) (fun q=>?_)))))
    ·refine gY (gY (gI q (fun q=>?_)))
     refine gY (gY (gY (gY (gI q (fun q=>?_)))))
     refine gY (gY (cF (cN q (fun q=>?_) (fun q=>?_))))
     ·refine gY (gY (gI q (fun q=>?_)))
      refine gY (gY (gY (gY (gI q (fun q=>?_)))))
      refine gY (gY (cF ?_))
      cases sE q
      refine E4 I3 (R3 (AI (R3 TV) (R3 TV)))
     refine gN (gN (gN (gN (gN (gN (gN (gN (cT ?_))))))))
     cases sE q
     refine E4 I3 (R3 (AI (R3 TV) (R3 TV)))
    refine gN (gN (gN (gN (gN (gN (gN (gN (cT (gN (gN (gN (gN (gN (gN (gN (gN (gN (cT ?_))))))))))))))))))
    cases sE q
    refine E4 I3 (R3 (AI (R3 TV) (R3 TV)))
   refine gN (gN (gN (cT (gN (gN (gN (gN (gN (gN (gN (gN (gN (cT (gN (gN (gN (gN (gN (gN (gN (gN (gN (cT ?_)))))))))))))))))))))))
   cases sE q
   refine E4 I3 (R3 (AI (R3 TV) (R3 TV)))
  refine AI (cI q (fun q=>?_) (fun q=>?_)) TV
  ·refine OL (OL ?_)
   cases sE q
   refine E4 [(0,some 2)] (R2 (AJ (AI rfl TV)))
  cases sE q
  refine E4 I3 (R2 (AI (R3 TV) (R3 TV)))
 rcases z8 with z8a | z8b
 ·dsimp only [sumF] at q
  refine AI (OL (EI (.take 0 (.take 1 (.take 2 (.take 3 (.take 4 (.take 5 (.take 6 (.take 7 (.take 8 (.take 9 (.take 10 (.take 11 (.take 12 (.take 13 (.take 14 .done))))))))))))))) (EI [] (EI [] (AI rfl (gI q (fun q=>?_))))))) TV
  refine gI q (fun q=>?_)
  refine gI q (fun q=>?_)
  refine OL ?_
  obtain ⟨q5_14,hq5_14,q⟩ := bE q
  refine OL (AI f73_in (cV (cQ C73 ((rd (0:Int) a.1 (1:Int)),(rd (0:Int) k.1 (2:Int)),step) q5_14 [] false C73_holds hq5_14 rfl rfl (R3 (K0 (OL (gI q (fun q=>?_))))))))
  refine OL ?_
  obtain ⟨r16,hr16,q⟩ := bE q
  refine OL (AI f74_in (cV (cQ C74 [(rd (0:Int) k.1 (0:Int)),q5_14] r16 [] true C74_holds hr16 rfl rfl (AI rfl (AI (fun _=>rfl) (R2 (AI TV (AI TV (OL (OL (OL (cI q (fun q=>?_) (fun q=>?_)))))))))))))
  ·refine OL (OL ?_)
   cases sE q
   refine AI rfl (E4 [(0,none),(1,none)] (R2 (AJ (R2 TV))))
  refine OL (OL ?_)
  obtain ⟨z25,hz25,q⟩ := bE q
  refine lI (Int×LI) LI (fun x=>⟨[(2,.dat T2 step),(3,P0 0 0),(4,P0 1 0),(6,P0 2 0),(8,.dat T2 (rd (0:Int) a.1 (0:Int))),(9,.dat T2 (rd (0:Int) a.1 (1:Int))),(10,.dat T2 (rd (0:Int) k.1 (2:Int))),(11,.dat T2 q5_14),(12,P0 3 0),(101,.dat T2 (List.length r16.2.2:Int)),(102,.dat T2 x.1)],[(0,.cells [(.d T1 a.1),(.d T1 a.2)]),(1,.cells [(.d T1 k.1),(.d T1 k.2)]),(2,.cells [N0,N0]),(3,.cells [(.osl 4),(.osl 5)]),(4,.arr 3 T2 r16.2.1),(5,.arr 33 T2 x.2)],6⟩) (fun z=>[(3,⟨[(6,P0 0 0),(12,P0 1 0)],[(0,.cells [N0,N0]),(1,.cells [(.osl 2),(.osl 3)]),(2,.arr 3 T2 r16.2.1),(3,.arr 33 T2 z)],4⟩)]) (loopF (fun go x=>f39_l14 a k step q5_14 r16 go x.1 x.2)) fuelN ((0:Int),r16.2.2) z25 (AI hz25 (AI (E4 [(0,some 0),(1,some 1),(2,some 2),(3,some 6),(4,some 4),(5,some 5)] (R8 (AI (R4 TV) (R6 TV)))) (AI (fun _ _ h=>lZ h) (AI (fun m=>curI (fun v102=>fun l5 z q=>?_)) ?_))))
  ·have q : f39_l14 a k step q5_14 r16 (loopF (fun go x=>f39_l14 a k step q5_14 r16 go x.1 x.2) m) v102 l5 = some z := q
   unfold f39_l14 at q
   refine OL (OL (cI q (fun q=>?_) (fun q=>?_)))
   ·refine OL (OL (OL (EI (.take 0 (.take 1 (.take 2 (.take 3 (.take 4 (.take 5 (.take 6 (.take 7 .done)))))))) (EI [] (EI [] (AI rfl (gI q (fun q=>?_))))))))
    refine gI q (fun q=>?_)
    refine OL (OL (OL ?_))
    obtain ⟨z28,hz28,q⟩ := bE q
    refine lI (Int×Int×Int×Int) (Int×Int×Int) (fun x=>⟨[(2,.dat T2 step),(3,P0 0 0),(4,P0 1 0),(6,P0 2 0),(8,.dat T2 (rd (0:Int) a.1 (0:Int))),(9,.dat T2 (rd (0:Int) a.1 (1:Int))),(10,.dat T2 (rd (0:Int) k.1 (2:Int))),(11,.dat T2 q5_14),(12,P0 3 0),(14,.dat T2 v102),(15,.dat T2 (i64.wrap (Int.tdiv v102 q5_14))),(16,.dat T2 (Int.tmod v102 q5_14)),(17,P0 4 0),(101,.dat T2 (List.length r16.2.2:Int)),(102,.dat T2 v102),(111,.dat T2 (rd (0:Int) a.1 (0:Int))),(112,.dat T2 x.1)],[(0,.cells [(.d T1 a.1),(.d T1 a.2)]),(1,.cells [(.d T1 k.1),(.d T1 k.2)]),(2,.cells [N0,N0]),(3,.cells [(.osl 5),(.osl 6)]),(4,.cells [(.d T2 x.2.1),(.d T2 x.2.2.1),(.d T4 x.2.2.2)]),(5,.arr 3 T2 r16.2.1),(6,.arr 33 T2 l5)],7⟩) (fun z=>[(5,⟨[(2,.dat T2 step),(3,P0 0 0),(4,P0 1 0),(6,P0 2 0),(8,.dat T2 (rd (0:Int) a.1 (0:Int))),(9,.dat T2 (rd (0:Int) a.1 (1:Int))),(10,.dat T2 (rd (0:Int) k.1 (2:Int))),(11,.dat T2 q5_14),(12,P0 3 0),(14,.dat T2 v102),(17,P0 4 0),(101,.dat T2 (List.length r16.2.2:Int)),(102,.dat T2 v102)],[(0,.cells [(.d T1 a.1),(.d T1 a.2)]),(1,.cells [(.d T1 k.1),(.d T1 k.2)]),(2,.cells [N0,N0]),(3,.cells [(.osl 5),(.osl 6)]),(4,.cells [(.d T2 z.1),(.d T2 z.2.1),(.d T4 z.2.2)]),(5,.arr 3 T2 r16.2.1),(6,.arr 33 T2 l5)],7⟩)]) (loopF (fun go x=>f39_l17 a k step q5_14 v102 go x.1 x.2.1 x.2.2.1 x.2.2.2)) fuelN ((0:Int),(0:Int),(0:Int),(0:Int)) z28 (AI hz28 (AI (E4 [(0,some 0),(1,some 1),(2,some 2),(3,some 3),(4,some 6),(5,some 4),(6,some 5)] (R13 (AI (R5 TV) (R7 TV)))) (AI (fun _ _ h=>lZ h) (AI (fun m=>curI (fun v112=>curI (fun c4_0=>curI (fun c4_1=>fun c4_2 z q=>?_)))) ?_))))
    ·have q : f39_l17 a k step q5_14 v102 (loopF (fun go x=>f39_l17 a k step q5_14 v102 go x.1 x.2.1 x.2.2.1 x.2.2.2) m) v112 c4_0 c4_1 c4_2 = some z := q
     unfold f39_l17 at q
     refine OL (OL (cI q (fun q=>?_) (fun q=>?_)))
     ·refine OL (OL (OL ?_))
      obtain ⟨z29,hz29,q⟩ := bE q
      refine lI (Int×Int×Int×Int) (Int×Int×Int) (fun x=>⟨[(2,.dat T2 step),(3,P0 0 0),(4,P0 1 0),(6,P0 2 0),(8,.dat T2 (rd (0:Int) a.1 (0:Int))),(9,.dat T2 (rd (0:Int) a.1 (1:Int))),(10,.dat T2 (rd (0:Int) k.1 (2:Int))),(11,.dat T2 q5_14),(12,P0 3 0),(14,.dat T2 v102),(15,.dat T2 (i64.wrap (Int.tdiv v102 q5_14))),(16,.dat T2 (Int.tmod v102 q5_14)),(17,P0 4 0),(18,.dat T2 v112),(101,.dat T2 (List.length r16.2.2:Int)),(102,.dat T2 v102),(111,.dat T2 (rd (0:Int) a.1 (0:Int))),(112,.dat T2 v112),(115,.dat T2 (rd (0:Int) k.1 (2:Int))),(116,.dat T2 x.1)],[(0,.cells [(.d T1 a.1),(.d T1 a.2)]),(1,.cells [(.d T1 k.1),(.d T1 k.2)]),(2,.cells [N0,N0]),(3,.cells [(.osl 5),(.osl 6)]),(4,.cells [(.d T2 x.2.1),(.d T2 x.2.2.1),(.d T4 x.2.2.2)]),(5,.arr 3 T2 r16.2.1),(6,.arr 33 T2 l5)],7⟩) (fun z=>[(7,⟨[(2,.dat T2 step),(3,P0 0 0),(4,P0 1 0),(6,P0 2 0),(8,.dat T2 (rd (0:Int) a.1 (0:Int))),(9,.dat T2 (rd (0:Int) a.1 (1:Int))),(10,.dat T2 (rd (0:Int) k.1 (2:Int))),(11,.dat T2 q5_14),(12,P0 3 0),(14,.dat T2 v102),(15,.dat T2 (i64.wrap (Int.tdiv v102 q5_14))),(16,.dat T2 (Int.tmod v102 q5_14)),(17,P0 4 0),(101,.dat T2 (List.length r16.2.2:Int)),(102,.dat T2 v102),(111,.dat T2 (rd (0:Int) a.1 (0:Int))),(112,.dat T2 v112)],[(0,.cells [(.d T1 a.1),(.d T1 a.2)]),(1,.cells [(.d T1 k.1),(.d T1 k.2)]),(2,.cells [N0,N0]),(3,.cells [(.osl 5),(.osl 6)]),(4,.cells [(.d T2 z.1),(.d T2 z.2.1),(.d T4 z.2.2)]),(5,.arr 3 T2 r16.2.1),(6,.arr 33 T2 l5)],7⟩)]) (loopF (fun go x=>f39_l18 a k step q5_14 v102 v112 go x.1 x.2.1 x.2.2.1 x.2.2.2)) fuelN ((0:Int),c4_0,c4_1,c4_2) z29 (AI hz29 (AI (E4 I7 (R16 (AI (R5 TV) (R7 TV)))) (AI (fun _ _ h=>lZ h) (AI (fun m=>curI (fun v116=>curI (fun c4_0_2=>curI (fun c4_1_2=>fun c4_2_2 z q=>?_)))) ?_))))
      ·have q : f39_l18 a k step q5_14 v102 v112 (loopF (fun go x=>f39_l18 a k step q5_14 v102 v112 go x.1 x.2.1 x.2.2.1 x.2.2.2) m) v116 c4_0_2 c4_1_2 c4_2_2 = some z := q
       unfold f39_l18 at q
       refine OL (OL (cI q (fun q=>?_) (fun q=>?_)))
       ·refine OL (OL (EI (.take 0 (.take 1 (.take 2 (.take 3 (.take 4 (.take 5 (.take 6 (.take 7 (.take 8 (.take 9 (.take 10 (.take 11 (.take 12 (.take 13 (.take 14 (.take 15 (.take 16 (.take 17 (.take 18 (.take 19 (.take 20 (.take 21 (.take 22 (.take 23 (.take 24 (.take 25 (.alt 26 .done .done))))))))))))))))))))))))))) (EI [] (EI [] (AI rfl (gI q (fun q=>?_)))))))
        refine gI q (fun q=>?_)
        refine AI TV ?_
        obtain ⟨q21_26,hq21_26,q⟩ := bE q
        refine OL (AI f75_in (cV (cQ C75 (c4_0_2,c4_1_2,c4_2_2,(rd (0:Int) a.2 (i64.wrap ((i64.wrap ((i64.wrap (v112 * (rd (0:Int) a.1 (1:Int)))) + (i64.wrap ((Int.tmod v102 q5_14) * step)))) + v116))),(rd (0:Int) k.2 (i64.wrap ((i64.wrap ((i64.wrap ((i64.wrap ((i64.wrap (Int.tdiv v102 q5_14)) * (rd (0:Int) a.1 (0:Int)))) + v112)) * (rd (0:Int) k.1 (2:Int)))) + v116)))) q21_26 [(0,some 4)] false C75_holds hq21_26 rfl rfl (R2 (AI NH (R2 (AJ (AJ (EI ((i64.wrap (v116 + (1:Int))),q21_26.1,q21_26.2.1,q21_26.2.2) (AI q (E4 I7 (R16 (AI (R5 TV) (R7 TV))))))))))))))
       cases sE q
       refine E4 I7 (R13 (AI (R5 TV) (R7 TV)))
      refine AI (EI ((i64.wrap (v112 + (1:Int))),z29.1,z29.2.1,z29.2.2) (AI q (E4 I7 (R13 (AI (R5 TV) (R7 TV)))))) TV
     cases sE q
     refine E4 I7 (R9 (AI (R5 TV) (R7 TV)))
    refine AI (EI (.take 0 (.take 1 (.take 2 (.alt 3 (.take 4 (.alt 5 .done .done)) .done)))) (EI [] (EI [] (AI rfl (AI TV ?_))))) TV
    obtain ⟨q24_3,hq24_3,q⟩ := bE q
    refine OL (AI f76_in (cV (cQ C76 (z28.1,z28.2.1,z28.2.2,(32:Int)) q24_3 [(0,some 4)] false C76_holds hq24_3 rfl rfl (AI rfl (AI NH (R2 (AJ (AJ (gI q (fun q=>?_))))))))))
    refine AI TV (OL (EI ((i64.wrap (v102 + (1:Int))),(List.set l5 (Int.toNat v102) q24_3.1)) (AI q (E4 [(0,some 0),(1,some 1),(2,some 2),(3,some 3),(4,some 5),(5,some 6)] (R8 (AI (R4 TV) (R6 TV)))))))
   cases sE q
   refine E4 [(0,some 2),(1,some 3),(2,some 4),(3,some 5)] (AI rfl (AI (R2 TV) (R4 TV)))
  refine AI (OL (OL ?_)) TV
  cases sE q
  refine AI rfl (E4 [(0,some 2),(1,some 3)] (R2 (AJ (R2 TV))))
 dsimp only [sumF] at q
 refine AI ?_ TV
 cases sE q
 refine AI rfl (E4 [(0,none),(1,none)] (R2 (AJ (R2 TV))))
theorem C39_holds : HP C39 39 := hH Tryz.f39 (by kernel_rfl) rfl (fun x y q=>C39_vc x.1 x.2.1 x.2.2 y q)
theorem f39_in : InP 39 := inP (by kernel_rfl)
def f25 (op:Int) (a : LI×LI) (b : LI×LI) (k:Int) : Option (Int×LI×LI) :=
 bif (op == (2:Int)) then
 bindF (f35 (a.1,a.2) (b.1,b.2)) fun r1 =>
 some (r1.1,r1.2.1,r1.2.2)
 else
 bif (op == (3:Int)) then
 bindF (f36 (a.1,a.2) (b.1,b.2)) fun r2 =>
 some (r2.1,r2.2.1,r2.2.2)
 else
 bif (op == (4:Int)) then
 bindF (f37 (a.1,a.2) (b.1,b.2)) fun r3 =>
 some (r3.1,r3.2.1,r3.2.2)
 else
 bif (op == (6:Int)) then
 bindF (f38 (a.1,a.2) (b.1,b.2)) fun r4 =>
 some (r4.1,r4.2.1,r4.2.2)
 else
 bindF (f39 (a.1,a.2) (b.1,b.2) k) fun r5 =>
 some (r5.1,r5.2.1,r5.2.2)
def C25 : Con where
 X := Int×(LI×LI)×(LI×LI)×Int
 Y := Int×LI×LI
 e := 0
 args x := [.dat T2 x.1,.dat T3 x.2.1,.dat T3 x.2.2.1,.dat T2 x.2.2.2]
 hin x := []
 F x := f25 x.1 x.2.1 x.2.2.1 x.2.2.2
 ret y := [.raw true [(.osl 0),(.osl 1)],.dat T2 y.1]
 hout y := [(0,.arr 3 T2 y.2.1),(1,.arr 33 T2 y.2.2)]
 nout := 2
theorem C25_vc (op:Int) (a : LI×LI) (b : LI×LI) (k:Int) (y : Int×LI×LI) (q : f25 op a b k = some y) : VC Tryz.f25 C25 (op,a,b,k) y := by
 unfold f25 at q
 refine OL (OL (OL (OL (cI q (fun q=>?_) (fun q=>?_)))))
 ·refine OL ?_
  obtain ⟨r1,hr1,q⟩ := bE q
  refine OL (AI f35_in (cV (cQ C35 ((a.1,a.2),(b.1,b.2)) r1 [] false C35_holds hr1 rfl rfl (R4 (K0 (OL ?_))))))
  cases sE q
  refine AI rfl (E4 [(0,some 3),(1,some 4)] (R2 (AJ (R2 TV))))
 refine OL (cI q (fun q=>?_) (fun q=>?_))
 ·refine OL ?_
  obtain ⟨r2,hr2,q⟩ := bE q
  refine OL (AI f36_in (cV (cQ C36 ((a.1,a.2),(b.1,b.2)) r2 [] false C36_holds hr2 rfl rfl (R4 (K0 (OL ?_))))))
  cases sE q
  refine AI rfl (E4 [(0,some 3),(1,some 4)] (R2 (AJ (R2 TV))))
 refine OL (cI q (fun q=>?_) (fun q=>?_))
 ·refine OL ?_
  obtain ⟨r3,hr3,q⟩ := bE q
  refine OL (AI f37_in (cV (cQ C37 ((a.1,a.2),(b.1,b.2)) r3 [] false C37_holds hr3 rfl rfl (R4 (K0 (OL ?_))))))
  cases sE q
  refine AI rfl (E4 [(0,some 3),(1,some 4)] (R2 (AJ (R2 TV))))
 refine OL (cI q (fun q=>?_) (fun q=>?_))
 ·refine OL ?_
  obtain ⟨r4,hr4,q⟩ := bE q
  refine OL (AI f38_in (cV (cQ C38 ((a.1,a.2),(b.1,b.2)) r4 [] false C38_holds hr4 rfl rfl (R4 (K0 (OL ?_))))))
  cases sE q
  refine AI rfl (E4 [(0,some 3),(1,some 4)] (R2 (AJ (R2 TV))))
 refine OL ?_
 obtain ⟨r5,hr5,q⟩ := bE q
 refine OL (AI f39_in (cV (cQ C39 ((a.1,a.2),(b.1,b.2),k) r5 [] false C39_holds hr5 rfl rfl (R5 (K0 (OL ?_))))))
 cases sE q
 refine AI rfl (E4 [(0,some 3),(1,some 4)] (R2 (AJ (R2 TV))))
theorem C25_holds : HP C25 25 := hH Tryz.f25 (by kernel_rfl) rfl (fun x y q=>C25_vc x.1 x.2.1 x.2.2.1 x.2.2.2 y q)
theorem f25_in : InP 25 := inP (by kernel_rfl)
def f40_l1 (k:Int) (r1 : LI×LI) (go : (Int×LI) → Option LI) (v18:Int) (l2 : LI) : Option LI :=
 bif (decide (v18 < (List.length r1.2:Int))) then
 guardF (0 ≤ v18 ∧ v18 < (List.length l2:Int)) <|
 bindF (f68 (rd (0:Int) l2 v18) k) fun q7_5 =>
 guardF (0 ≤ v18 ∧ v18 < (List.length l2:Int)) <|
 go ((i64.wrap (v18 + (1:Int))),(List.set l2 (Int.toNat v18) q7_5))
 else
 some l2
def f40 (a : LI×LI) (k:Int) : Option (Int×LI×LI) :=
 bindF (f21 (a.1,a.2)) fun q7_7 =>
 bif (!q7_7) then
 some ((1:Int),[],[])
 else
 bindF (f19 (a.1,a.2)) fun r1 =>
 bindF (loopF (fun go x=>f40_l1 k r1 go x.1 x.2) fuelN ((0:Int),r1.2)) fun z2 =>
 some ((0:Int),r1.1,z2)
def C40 : Con where
 X := (LI×LI)×Int
 Y := Int×LI×LI
 e := 0
 args x := [.dat T3 x.1,.dat T2 x.2]
 hin x := []
 F x := f40 x.1 x.2
 ret y := [.raw true [(.osl 0),(.osl 1)],.dat T2 y.1]
 hout y := [(0,.arr 3 T2 y.2.1),(1,.arr 33 T2 y.2.2)]
 nout := 2
theorem C40_vc (a : LI×LI) (k:Int) (y : Int×LI×LI) (q : f40 a k = some y) : VC Tryz.f40 C40 (a,k) y := by
 unfold f40 at q
 refine OL (OL (OL ?_))
 obtain ⟨q7_7,hq7_7,q⟩ := bE q
 refine OL (AI f21_in (cV (cQ C21 (a.1,a.2) q7_7 [] false C21_holds hq7_7 rfl rfl (R2 (K0 (cI q (fun q=>?_) (fun q=>?_)))))))
 ·refine OL (OL ?_)
  cases sE q
  refine AI rfl (E4 [(0,none),(1,none)] (R2 (AJ (R2 TV))))
 refine OL ?_
 obtain ⟨r1,hr1,q⟩ := bE q
 refine OL (AI f19_in (cV (cQ C19 (a.1,a.2) r1 [] false C19_holds hr1 rfl rfl (R2 (K0 (OL (OL (OL ?_))))))))
 obtain ⟨z2,hz2,q⟩ := bE q
 refine lI (Int×LI) LI (fun x=>⟨[(1,.dat T2 k),(4,P0 0 0),(6,P0 1 0),(16,O0 2),(17,.dat T2 (List.length r1.2:Int)),(18,.dat T2 x.1)],[(0,.cells [N0,N0]),(1,.cells [(.osl 3),(.osl 2)]),(2,.arr 33 T2 x.2),(3,.arr 3 T2 r1.1)],4⟩) (fun z=>[(2,⟨[(4,P0 0 0),(6,P0 1 0)],[(0,.cells [N0,N0]),(1,.cells [(.osl 2),(.osl 3)]),(2,.arr 3 T2 r1.1),(3,.arr 33 T2 z)],4⟩)]) (loopF (fun go x=>f40_l1 k r1 go x.1 x.2)) fuelN ((0:Int),r1.2) z2 (AI hz2 (AI (E4 [(0,some 1),(1,some 4),(2,some 3),(3,some 2)] (R4 (AI (R3 TV) (R4 TV)))) (AI (fun _ _ h=>lZ h) (AI (fun m=>curI (fun v18=>fun l2 z q=>?_)) ?_))))
 ·have q : f40_l1 k r1 (loopF (fun go x=>f40_l1 k r1 go x.1 x.2) m) v18 l2 = some z := q
  unfold f40_l1 at q
  refine OL (OL (cI q (fun q=>?_) (fun q=>?_)))
  ·refine OL (OL (gI q (fun q=>?_)))
   refine EI (.take 0 (.take 1 (.take 2 (.take 3 (.take 4 (.alt 5 (.take 6 (.alt 7 .done .done)) .done)))))) (EI [] (EI [] (AI rfl (AI TV ?_))))
   obtain ⟨q7_5,hq7_5,q⟩ := bE q
   refine OL (AI f68_in (cV (cQ C68 ((rd (0:Int) l2 v18),k) q7_5 [] false C68_holds hq7_5 rfl rfl (R2 (K0 (gI q (fun q=>?_)))))))
   refine AI TV (OL (EI ((i64.wrap (v18 + (1:Int))),(List.set l2 (Int.toNat v18) q7_5)) (AI q (E4 I4 (R4 (AI (R3 TV) (R4 TV)))))))
  cases sE q
  refine E4 [(0,some 0),(1,some 1),(2,some 3),(3,some 2)] (AI rfl (AI (R2 TV) (R4 TV)))
 refine AI (OL (OL ?_)) TV
 cases sE q
 refine AI rfl (E4 [(0,some 2),(1,some 3)] (R2 (AJ (R2 TV))))
theorem C40_holds : HP C40 40 := hH Tryz.f40 (by kernel_rfl) rfl (fun x y q=>C40_vc x.1 x.2 y q)
theorem f40_in : InP 40 := inP (by kernel_rfl)
def f42_j3 (a : LI×LI) (side:Int) : Option Bool :=
 bindF (f21 (a.1,a.2)) fun r6 =>
 bif (!r6) then
 some true
 else
 bif (decide (side < (0:Int))) then
 some true
 else
 some (decide (side ≥ (List.length a.1:Int)))
def f42_j2 (a : LI×LI) (side:Int) : Option (Sum Unit Unit) :=
 bindF (f42_j3 a side) fun z5 =>
 bif z5 then
 some (Sum.inr ())
 else
 some (Sum.inl ())
def f42_l4 (a : LI×LI) (side:Int) (r7 : LI) (go : (Int×(List (Int×Int))) → Option (List (Int×Int))) (v55:Int) (l3 : List (Int×Int)) : Option (List (Int×Int)) :=
 bif (decide (v55 < (List.length a.2:Int))) then
 guardF (0 ≤ v55 ∧ v55 < (List.length a.2:Int)) <|
 guardF (0 ≤ side ∧ side < (List.length a.1:Int)) <|
 guardF ((i64.wrap ((rd (0:Int) r7 side) * (rd (0:Int) a.1 side))) ≠ 0) <|
 guardF ((rd (0:Int) r7 side) ≠ 0) <|
 guardF (0 ≤ (i64.wrap ((i64.wrap ((i64.wrap (Int.tdiv v55 (i64.wrap ((rd (0:Int) r7 side) * (rd (0:Int) a.1 side))))) * (rd (0:Int) r7 side))) + (Int.tmod v55 (rd (0:Int) r7 side)))) ∧ (i64.wrap ((i64.wrap ((i64.wrap (Int.tdiv v55 (i64.wrap ((rd (0:Int) r7 side) * (rd (0:Int) a.1 side))))) * (rd (0:Int) r7 side))) + (Int.tmod v55 (rd (0:Int) r7 side)))) < (List.length l3:Int)) <|
 bindF (f80 (rd (0:Int) a.2 v55)) fun q10_7 =>
 bindF (f79 ((rd (Ty.z T5) l3 (i64.wrap ((i64.wrap ((i64.wrap (Int.tdiv v55 (i64.wrap ((rd (0:Int) r7 side) * (rd (0:Int) a.1 side))))) * (rd (0:Int) r7 side))) + (Int.tmod v55 (rd (0:Int) r7 side))))).1,(rd (Ty.z T5) l3 (i64.wrap ((i64.wrap ((i64.wrap (Int.tdiv v55 (i64.wrap ((rd (0:Int) r7 side) * (rd (0:Int) a.1 side))))) * (rd (0:Int) r7 side))) + (Int.tmod v55 (rd (0:Int) r7 side))))).2) (q10_7.1,q10_7.2)) fun q10_8 =>
 guardF (0 ≤ (i64.wrap ((i64.wrap ((i64.wrap (Int.tdiv v55 (i64.wrap ((rd (0:Int) r7 side) * (rd (0:Int) a.1 side))))) * (rd (0:Int) r7 side))) + (Int.tmod v55 (rd (0:Int) r7 side)))) ∧ (i64.wrap ((i64.wrap ((i64.wrap (Int.tdiv v55 (i64.wrap ((rd (0:Int) r7 side) * (rd (0:Int) a.1 side))))) * (rd (0:Int) r7 side))) + (Int.tmod v55 (rd (0:Int) r7 side)))) < (List.length l3:Int)) <|
 go ((i64.wrap (v55 + (1:Int))),(List.set l3 (Int.toNat (i64.wrap ((i64.wrap ((i64.wrap (Int.tdiv v55 (i64.wrap ((rd (0:Int) r7 side) * (rd (0:Int) a.1 side))))) * (rd (0:Int) r7 side))) + (Int.tmod v55 (rd (0:Int) r7 side))))) (q10_8.1,q10_8.2)))
 else
 some l3
def f42_l5 (z8 : List (Int×Int)) (go : (Int×LI) → Option LI) (v93:Int) (l4 : LI) : Option LI :=
 bif (decide (v93 < (List.length z8:Int))) then
 guardF (0 ≤ v93 ∧ v93 < (List.length z8:Int)) <|
 bindF (f81 ((rd (Ty.z T5) z8 v93).1,(rd (Ty.z T5) z8 v93).2)) fun q16_4 =>
 guardF (0 ≤ v93 ∧ v93 < (List.length l4:Int)) <|
 go ((i64.wrap (v93 + (1:Int))),(List.set l4 (Int.toNat v93) q16_4))
 else
 some l4
def f42 (a : LI×LI) (side:Int) : Option (Int×LI×LI) :=
 bindF (f42_j2 a side) fun z3 =>
 sumF z3 (fun z3a =>
 guardF (0 ≤ side ∧ side ≤ (List.length a.1:Int)) <|
 guardF (0 ≤ (i64.wrap (side + (1:Int))) ∧ (i64.wrap (side + (1:Int))) ≤ (List.length a.1:Int)) <|
 guardF ((List.length ([] : LI) + List.length (List.take (Int.toNat side) a.1)) * 8 ≤ 140737488355328) <|
 guardF ((List.length (([] : LI) ++ (List.take (Int.toNat side) a.1)) + List.length (List.drop (Int.toNat (i64.wrap (side + (1:Int)))) a.1)) * 8 ≤ 140737488355328) <|
 bindF (f34 ((([] : LI) ++ (List.take (Int.toNat side) a.1)) ++ (List.drop (Int.toNat (i64.wrap (side + (1:Int)))) a.1))) fun q3_12 =>
 guardF (0 ≤ q3_12 ∧ q3_12 ≤ q3_12 ∧ Int.toNat q3_12 * 16 ≤ 140737488355328) <|
 bindF (f78 a.1) fun r7 =>
 guardF (0 ≤ side ∧ side < (List.length r7:Int)) <|
 bindF (loopF (fun go x=>f42_l4 a side r7 go x.1 x.2) fuelN ((0:Int),(List.replicate (Int.toNat q3_12) (Ty.z T5)))) fun z8 =>
 bindF (f70 ((([] : LI) ++ (List.take (Int.toNat side) a.1)) ++ (List.drop (Int.toNat (i64.wrap (side + (1:Int)))) a.1)) (0:Int)) fun q10_10 =>
 bindF (loopF (fun go x=>f42_l5 z8 go x.1 x.2) fuelN ((0:Int),q10_10.2.2)) fun z9 =>
 some ((0:Int),q10_10.2.1,z9)) (fun z3b =>
 some ((1:Int),[],[]))
def C42 : Con where
 X := (LI×LI)×Int
 Y := Int×LI×LI
 e := 0
 args x := [.dat T3 x.1,.dat T2 x.2]
 hin x := []
 F x := f42 x.1 x.2
 ret y := [.raw true [(.osl 0),(.osl 1)],.dat T2 y.1]
 hout y := [(0,.arr 3 T2 y.2.1),(1,.arr 33 T2 y.2.2)]
 nout := 2
theorem C42_vc (a : LI×LI) (side:Int) (y : Int×LI×LI) (q : f42 a side = some y) : VC Tryz.f42 C42 (a,side) y := by
 unfold f42 at q
 refine OL ?_
 obtain ⟨z3,hz3,q⟩ := bE q
 refine OQ ⟨Sum.elim (fun z3a=>[(0,⟨[(1,.dat T2 side),(2,P0 0 0),(4,P0 1 0)],[(0,.cells [(.d T1 a.1),(.d T1 a.2)]),(1,.cells [N0,N0])],2⟩)]) (fun z3b=>[(1,⟨[(4,P0 0 0),(5,D0 1)],[(0,.cells [N0,N0])],1⟩)]) z3,?_,?_⟩
 ·have q := hz3
  clear hz3
  unfold f42_j2 at q
  obtain ⟨z5,hz5,q⟩ := bE q
  refine OQ ⟨[(0,⟨[(1,.dat T2 side),(2,P0 0 0),(4,P0 1 0),(29,.dat .bool z5)],[(0,.cells [(.d T1 a.1),(.d T1 a.2)]),(1,.cells [N0,N0])],2⟩)],?_,?_⟩
  ·have q := hz5
   clear hz5
   unfold f42_j3 at q
   obtain ⟨r6,hr6,q⟩ := bE q
   refine OL (AI f21_in (cV (cQ C21 (a.1,a.2) r6 [] false C21_holds hr6 rfl rfl (R2 (K0 (cN q (fun q=>?_) (fun q=>?_)))))))
   ·refine gY (cF (cN q (fun q=>?_) (fun q=>?_)))
    ·refine gY (gY (gY (gY (cF ?_))))
     cases sE q
     refine E4 I2 (R3 (AI (R2 TV) (R2 TV)))
    refine gN (gN (gN (gN (cT ?_))))
    cases sE q
    refine E4 I2 (R3 (AI (R2 TV) (R2 TV)))
   refine gN (cT (gN (gN (gN (gN (gN (cT ?_)))))))
   cases sE q
   refine E4 I2 (R3 (AI (R2 TV) (R2 TV)))
  refine AI (cI q (fun q=>?_) (fun q=>?_)) TV
  ·refine OL (OL ?_)
   cases sE q
   refine E4 [(0,some 1)] (R2 (AJ (AI rfl TV)))
  cases sE q
  refine E4 I2 (R2 (AI (R2 TV) (R2 TV)))
 rcases z3 with z3a | z3b
 ·dsimp only [sumF] at q
  refine AI (OL (EI (.take 1 (.take 2 (.take 3 (.take 4 (.take 6 (.take 7 (.take 8 (.take 9 (.take 10 (.alt 0 (.alt 5 (.alt 11 (.take 12 .done) .done) .done) .done)))))))))) (EI [] (EI [] (AI rfl (gI q (fun q=>?_))))))) TV
  refine gI q (fun q=>?_)
  refine AI TV (OL (AI TV (OL (gI q (fun q=>?_)))))
  refine AI TV (OL (gI q (fun q=>?_)))
  refine OL ?_
  obtain ⟨q3_12,hq3_12,q⟩ := bE q
  refine OL (AI f34_in (cV (cQ C34 ((([] : LI) ++ (List.take (Int.toNat side) a.1)) ++ (List.drop (Int.toNat (i64.wrap (side + (1:Int)))) a.1)) q3_12 [] true C34_holds hq3_12 rfl rfl (AI rfl (AI (fun _=>rfl) (R2 (AI TV (AI TV (gI q (fun q=>?_))))))))))
  refine OL ?_
  obtain ⟨r7,hr7,q⟩ := bE q
  refine OL (AI f78_in (cV (cQ C78 a.1 r7 [] false C78_holds hr7 rfl rfl (AI rfl (K0 (gI q (fun q=>?_)))))))
  refine OL (OL ?_)
  obtain ⟨z8,hz8,q⟩ := bE q
  refine lI (Int×(List (Int×Int))) (List (Int×Int)) (fun x=>⟨[(1,.dat T2 side),(2,P0 0 0),(4,P0 1 0),(6,O0 2),(7,O0 3),(8,.dat T2 (rd (0:Int) r7 side)),(53,.dat T1 a.2),(54,.dat T2 (List.length a.2:Int)),(55,.dat T2 x.1)],[(0,.cells [(.d T1 a.1),(.d T1 a.2)]),(1,.cells [N0,N0]),(2,.arr 3 T2 ((([] : LI) ++ (List.take (Int.toNat side) a.1)) ++ (List.drop (Int.toNat (i64.wrap (side + (1:Int)))) a.1))),(3,.arr 94 T5 x.2)],4⟩) (fun z=>[(2,⟨[(4,P0 0 0),(6,O0 1),(7,O0 2)],[(0,.cells [N0,N0]),(1,.arr 3 T2 ((([] : LI) ++ (List.take (Int.toNat side) a.1)) ++ (List.drop (Int.toNat (i64.wrap (side + (1:Int)))) a.1))),(2,.arr 94 T5 z)],3⟩)]) (loopF (fun go x=>f42_l4 a side r7 go x.1 x.2)) fuelN ((0:Int),(List.replicate (Int.toNat q3_12) (Ty.z T5))) z8 (AI hz8 (AI (E4 [(0,some 0),(1,some 1),(2,some 4),(3,some 5)] (R6 (AI (R4 TV) (R4 TV)))) (AI (fun _ _ h=>lZ h) (AI (fun m=>curI (fun v55=>fun l3 z q=>?_)) ?_))))
  ·have q : f42_l4 a side r7 (loopF (fun go x=>f42_l4 a side r7 go x.1 x.2) m) v55 l3 = some z := q
   unfold f42_l4 at q
   refine OL (OL (cI q (fun q=>?_) (fun q=>?_)))
   ·refine OL (OL (gI q (fun q=>?_)))
    refine OL (EI (.take 0 (.take 1 (.take 2 (.take 3 (.take 4 (.take 5 (.take 6 (.take 7 (.take 8 (.take 9 (.take 10 (.take 11 (.take 12 (.take 13 (.take 14 (.take 15 .done)))))))))))))))) (EI [] (EI [] (AI rfl (gI q (fun q=>?_))))))
    refine gI q (fun q=>?_)
    refine gI q (fun q=>?_)
    refine EI (.take 0 (.take 1 (.take 2 (.take 3 (.take 4 (.take 5 (.take 6 (.alt 7 (.alt 8 (.take 9 (.alt 10 .done .done)) .done) .done)))))))) (EI [(10,[3])] (EI [] (AI rfl (gI q (fun q=>?_)))))
    refine AI TV ?_
    obtain ⟨q10_7,hq10_7,q⟩ := bE q
    refine OL (AI f80_in (cV (cQ C80 (rd (0:Int) a.2 v55) q10_7 [] false C80_holds hq10_7 rfl rfl (AI rfl (K0 (AI TV ?_))))))
    obtain ⟨q10_8,hq10_8,q⟩ := bE q
    refine OL (AI f79_in (cV (cQ C79 (((rd (Ty.z T5) l3 (i64.wrap ((i64.wrap ((i64.wrap (Int.tdiv v55 (i64.wrap ((rd (0:Int) r7 side) * (rd (0:Int) a.1 side))))) * (rd (0:Int) r7 side))) + (Int.tmod v55 (rd (0:Int) r7 side))))).1,(rd (Ty.z T5) l3 (i64.wrap ((i64.wrap ((i64.wrap (Int.tdiv v55 (i64.wrap ((rd (0:Int) r7 side) * (rd (0:Int) a.1 side))))) * (rd (0:Int) r7 side))) + (Int.tmod v55 (rd (0:Int) r7 side))))).2),(q10_7.1,q10_7.2)) q10_8 [] false C79_holds hq10_8 rfl rfl (R4 (K0 (gI q (fun q=>?_)))))))
    refine AI TV (OL (EI ((i64.wrap (v55 + (1:Int))),(List.set l3 (Int.toNat (i64.wrap ((i64.wrap ((i64.wrap (Int.tdiv v55 (i64.wrap ((rd (0:Int) r7 side) * (rd (0:Int) a.1 side))))) * (rd (0:Int) r7 side))) + (Int.tmod v55 (rd (0:Int) r7 side))))) (q10_8.1,q10_8.2))) (AI q (E4 I4 (R6 (AI (R4 TV) (R4 TV)))))))
   cases sE q
   refine E4 [(0,some 1),(1,some 2),(2,some 3)] (AI rfl (AI (R3 TV) (R3 TV)))
  refine AI (OL ?_) TV
  obtain ⟨q10_10,hq10_10,q⟩ := bE q
  refine OL (AI f70_in (cV (cQ C70 (((([] : LI) ++ (List.take (Int.toNat side) a.1)) ++ (List.drop (Int.toNat (i64.wrap (side + (1:Int)))) a.1)),(0:Int)) q10_10 [] true C70_holds hq10_10 rfl rfl (R2 (AI (fun _=>rfl) (R2 (AI TV (AI TV (OL (OL (OL ?_)))))))))))
  obtain ⟨z9,hz9,q⟩ := bE q
  refine lI (Int×LI) LI (fun x=>⟨[(4,P0 0 0),(12,P0 1 0),(91,O0 2),(92,.dat T2 (List.length z8:Int)),(93,.dat T2 x.1)],[(0,.cells [N0,N0]),(1,.cells [(.osl 3),(.osl 4)]),(2,.arr 94 T5 z8),(3,.arr 3 T2 q10_10.2.1),(4,.arr 33 T2 x.2)],5⟩) (fun z=>[(4,⟨[(4,P0 0 0),(12,P0 1 0)],[(0,.cells [N0,N0]),(1,.cells [(.osl 2),(.osl 3)]),(2,.arr 3 T2 q10_10.2.1),(3,.arr 33 T2 z)],4⟩)]) (loopF (fun go x=>f42_l5 z8 go x.1 x.2)) fuelN ((0:Int),q10_10.2.2) z9 (AI hz9 (AI (E4 [(0,some 0),(1,some 5),(2,some 2),(3,some 3),(4,some 4)] (R3 (AI (R3 TV) (R5 TV)))) (AI (fun _ _ h=>lZ h) (AI (fun m=>curI (fun v93=>fun l4 z q=>?_)) ?_))))
  ·have q : f42_l5 z8 (loopF (fun go x=>f42_l5 z8 go x.1 x.2) m) v93 l4 = some z := q
   unfold f42_l5 at q
   refine OL (OL (cI q (fun q=>?_) (fun q=>?_)))
   ·refine OL (OL (gI q (fun q=>?_)))
    refine OL (EI (.take 0 (.take 1 (.take 2 (.take 3 (.alt 4 (.take 5 (.alt 6 .done .done)) .done))))) (EI [] (EI [] (AI rfl (AI TV ?_)))))
    obtain ⟨q16_4,hq16_4,q⟩ := bE q
    refine OL (AI f81_in (cV (cQ C81 ((rd (Ty.z T5) z8 v93).1,(rd (Ty.z T5) z8 v93).2) q16_4 [] false C81_holds hq16_4 rfl rfl (R2 (K0 (gI q (fun q=>?_)))))))
    refine AI TV (OL (EI ((i64.wrap (v93 + (1:Int))),(List.set l4 (Int.toNat v93) q16_4)) (AI q (E4 I5 (R3 (AI (R3 TV) (R5 TV)))))))
   cases sE q
   refine E4 [(0,some 0),(1,some 1),(2,some 3),(3,some 4)] (AI rfl (AI (R2 TV) (R4 TV)))
  refine AI (OL (OL ?_)) TV
  cases sE q
  refine AI rfl (E4 [(0,some 2),(1,some 3)] (R2 (AJ (R2 TV))))
 dsimp only [sumF] at q
 refine AI ?_ TV
 cases sE q
 refine AI rfl (E4 [(0,none),(1,none)] (R2 (AJ (R2 TV))))
theorem C42_holds : HP C42 42 := hH Tryz.f42 (by kernel_rfl) rfl (fun x y q=>C42_vc x.1 x.2 y q)
theorem f42_in : InP 42 := inP (by kernel_rfl)
def f82_l1 (v : LI) (go : (Int×Int×Int) → Option (Int×Int)) (v9:Int) (c1_0:Int) (c1_1:Int) : Option (Int×Int) :=
 bif (decide (v9 < (List.length v:Int))) then
 guardF (0 ≤ v9 ∧ v9 < (List.length v:Int)) <|
 bindF (f80 (rd (0:Int) v v9)) fun q5_2 =>
 bindF (f79 (c1_0,c1_1) (q5_2.1,q5_2.2)) fun q5_3 =>
 go ((i64.wrap (v9 + (1:Int))),q5_3.1,q5_3.2)
 else
 some (c1_0,c1_1)
def f82 (v : LI) : Option (Int×Int) :=
 bindF (loopF (fun go x=>f82_l1 v go x.1 x.2.1 x.2.2) fuelN ((0:Int),(0:Int),(0:Int))) fun z1 =>
 some (z1.1,z1.2)
def C82 : Con where
 X := LI
 Y := Int×Int
 e := 0
 args x := [.dat T1 x]
 hin x := []
 F x := f82 x
 ret y := [.raw true [(.d T2 y.1),(.d T4 y.2)]]
 hout y := []
 nout := 0
theorem C82_vc (v : LI) (y : Int×Int) (q : f82 v = some y) : VC Tryz.f82 C82 v y := by
 unfold f82 at q
 refine OL (OL (OL (OL (OL ?_))))
 obtain ⟨z1,hz1,q⟩ := bE q
 refine lI (Int×Int×Int) (Int×Int) (fun x=>⟨[(2,P0 0 0),(3,P0 1 0),(7,.dat T1 v),(8,.dat T2 (List.length v:Int)),(9,.dat T2 x.1)],[(0,.cells [(.d T2 (0:Int)),(.d T4 (0:Int))]),(1,.cells [(.d T2 x.2.1),(.d T4 x.2.2)])],2⟩) (fun z=>[(2,⟨[(2,P0 0 0),(3,P0 1 0)],[(0,.cells [(.d T2 (0:Int)),(.d T4 (0:Int))]),(1,.cells [(.d T2 z.1),(.d T4 z.2)])],2⟩)]) (loopF (fun go x=>f82_l1 v go x.1 x.2.1 x.2.2)) fuelN ((0:Int),(0:Int),(0:Int)) z1 (AI hz1 (AI (E4 I2 (R4 (AI (R2 TV) (R2 TV)))) (AI (fun _ _ h=>lZ h) (AI (fun m=>curI (fun v9=>curI (fun c1_0=>fun c1_1 z q=>?_))) ?_))))
 ·have q : f82_l1 v (loopF (fun go x=>f82_l1 v go x.1 x.2.1 x.2.2) m) v9 c1_0 c1_1 = some z := q
  unfold f82_l1 at q
  refine OL (OL (cI q (fun q=>?_) (fun q=>?_)))
  ·refine OL (OL (gI q (fun q=>?_)))
   refine EI (.take 0 (.take 1 (.alt 2 (.alt 3 (.alt 4 .done .done) .done) .done))) (EI [(4,[1])] (EI [] (AI rfl (AI TV ?_))))
   obtain ⟨q5_2,hq5_2,q⟩ := bE q
   refine OL (AI f80_in (cV (cQ C80 (rd (0:Int) v v9) q5_2 [] false C80_holds hq5_2 rfl rfl (AI rfl (K0 (AI TV ?_))))))
   obtain ⟨q5_3,hq5_3,q⟩ := bE q
   refine OL (AI f79_in (cV (cQ C79 ((c1_0,c1_1),(q5_2.1,q5_2.2)) q5_3 [] false C79_holds hq5_3 rfl rfl (R4 (K0 (AI TV (OL (EI ((i64.wrap (v9 + (1:Int))),q5_3.1,q5_3.2) (AI q (E4 I2 (R4 (AI (R2 TV) (R2 TV)))))))))))))
  cases sE q
  refine E4 I2 (AI rfl (AI (R2 TV) (R2 TV)))
 refine AI (OL (OL ?_)) TV
 cases sE q
 refine AI rfl (E4 [] (AI rfl (AJ TV)))
theorem C82_holds : HP C82 82 := hH Tryz.f82 (by kernel_rfl) rfl (fun x y q=>C82_vc x y q)
theorem f82_in : InP 82 := inP (by kernel_rfl)
def f44 (a : LI×LI) : Option (Int×Int) :=
 bindF (f21 (a.1,a.2)) fun r1 =>
 bif (!r1) then
 some ((0:Int),(1:Int))
 else
 bindF (f82 a.2) fun r2 =>
 bindF (f81 (r2.1,r2.2)) fun r3 =>
 some (r3,(0:Int))
def C44 : Con where
 X := LI×LI
 Y := Int×Int
 e := 0
 args x := [.dat T3 x]
 hin x := []
 F x := f44 x
 ret y := [.dat T2 y.1,.dat T2 y.2]
 hout y := []
 nout := 0
theorem C44_vc (a : LI×LI) (y : Int×Int) (q : f44 a = some y) : VC Tryz.f44 C44 a y := by
 unfold f44 at q
 refine OL (OL (OL ?_))
 obtain ⟨r1,hr1,q⟩ := bE q
 refine OL (AI f21_in (cV (cQ C21 (a.1,a.2) r1 [] false C21_holds hr1 rfl rfl (R2 (K0 (cI q (fun q=>?_) (fun q=>?_)))))))
 ·cases sE q
  refine OL (AI rfl (E4 [] (R3 (AI TV TV))))
 refine OL ?_
 obtain ⟨r2,hr2,q⟩ := bE q
 refine OL (AI f82_in (cV (cQ C82 a.2 r2 [] false C82_holds hr2 rfl rfl (AI rfl (K0 ?_)))))
 obtain ⟨r3,hr3,q⟩ := bE q
 refine OL (AI f81_in (cV (cQ C81 (r2.1,r2.2) r3 [] false C81_holds hr3 rfl rfl (R2 (K0 ?_)))))
 cases sE q
 refine AI rfl (E4 [] (R3 (AI TV TV)))
theorem C44_holds : HP C44 44 := hH Tryz.f44 (by kernel_rfl) rfl (fun x y q=>C44_vc x y q)
theorem f44_in : InP 44 := inP (by kernel_rfl)
def f43 (x_:Int) (e:Int) : Option (Int×LI×LI) :=
 bif (e != (0:Int)) then
 some (e,[],[])
 else
 bindF (f70 ([]) x_) fun r1 =>
 some (r1.1,r1.2.1,r1.2.2)
def C43 : Con where
 X := Int×Int
 Y := Int×LI×LI
 e := 0
 args x := [.dat T2 x.1,.dat T2 x.2]
 hin x := []
 F x := f43 x.1 x.2
 ret y := [.raw true [(.osl 0),(.osl 1)],.dat T2 y.1]
 hout y := [(0,.arr 3 T2 y.2.1),(1,.arr 33 T2 y.2.2)]
 nout := 2
theorem C43_vc (x_:Int) (e:Int) (y : Int×LI×LI) (q : f43 x_ e = some y) : VC Tryz.f43 C43 (x_,e) y := by
 unfold f43 at q
 refine OL (OL (OL (cI q (fun q=>?_) (fun q=>?_))))
 ·refine OL (OL ?_)
  cases sE q
  refine AI rfl (E4 [(0,none),(1,none)] (R2 (AJ (R2 TV))))
 refine OL ?_
 obtain ⟨r1,hr1,q⟩ := bE q
 refine OL (AI f70_in (cV (cQ C70 ([],x_) r1 [] false C70_holds hr1 rfl rfl (R2 (K0 (OL ?_))))))
 cases sE q
 refine AI rfl (E4 [(0,some 1),(1,some 2)] (R2 (AJ (R2 TV))))
theorem C43_holds : HP C43 43 := hH Tryz.f43 (by kernel_rfl) rfl (fun x y q=>C43_vc x.1 x.2 y q)
theorem f43_in : InP 43 := inP (by kernel_rfl)
def f116_j1 (a : Int×Int) (b : Int×Int) : Option Bool :=
 bif (decide (a.1 < b.1)) then
 some true
 else
 bif (a.1 == b.1) then
 some (decide (a.2 < b.2))
 else
 some false
def f116 (a : Int×Int) (b : Int×Int) : Option Int :=
 bindF (f116_j1 a b) fun z1 =>
 bif z1 then
 some (-1:Int)
 else
 bif (a.1 == b.1 && a.2 == b.2) then
 some (0:Int)
 else
 some (1:Int)
def C116 : Con where
 X := (Int×Int)×(Int×Int)
 Y := Int
 e := 0
 args x := [.dat T5 x.1,.dat T5 x.2]
 hin x := []
 F x := f116 x.1 x.2
 ret y := [.dat T2 y]
 hout y := []
 nout := 0
theorem C116_vc (a : Int×Int) (b : Int×Int) (y:Int) (q : f116 a b = some y) : VC Tryz.f116 C116 (a,b) y := by
 unfold f116 at q
 refine OL (OL ?_)
 obtain ⟨z1,hz1,q⟩ := bE q
 refine OQ ⟨[(0,⟨[(2,P0 0 0),(3,P0 1 0),(5,.dat .bool z1)],[(0,.cells [(.d T2 a.1),(.d T4 a.2)]),(1,.cells [(.d T2 b.1),(.d T4 b.2)])],2⟩)],?_,?_⟩
 ·have q := hz1
  clear hz1
  unfold f116_j1 at q
  refine cN q (fun q=>?_) (fun q=>?_)
  ·refine gY (gY (gY (gY (gY (cI q (fun q=>?_) (fun q=>?_))))))
   ·refine gX (gX (gX (gX (gY (cT (cF ?_))))))
    cases sE q
    refine E4 I2 (R2 (AI (R2 TV) (R2 TV)))
   refine gM (gM (gM (gM (gY (cF (cF ?_))))))
   cases sE q
   refine E4 I2 (R2 (AI (R2 TV) (R2 TV)))
  refine gN (gN (gN (gN (gN (gN (cT ?_))))))
  cases sE q
  refine E4 I2 (R2 (AI (R2 TV) (R2 TV)))
 refine AI (cI q (fun q=>?_) (fun q=>?_)) TV
 ·cases sE q
  refine OL (AI rfl (E4 [] (R2 (AI TV TV))))
 refine OL (AI ⟨by kernel_rfl,by kernel_rfl,by decide,by decide⟩ ?_)
 refine cI q (fun q=>?_) (fun q=>?_)
 ·cases sE q
  refine OL (AI rfl (E4 [] (R2 (AI TV TV))))
 cases sE q
 refine OL (AI rfl (E4 [] (R2 (AI TV TV))))
theorem C116_holds : HP C116 116 := hH Tryz.f116 (by kernel_rfl) rfl (fun x y q=>C116_vc x.1 x.2 y q)
theorem f116_in : InP 116 := inP (by kernel_rfl)
def f143_s1 : ByteArray := ⟨⟨[0,1,2,2,3,3,3,3,4,4,4,4,4,4,4,4,5,5,5,5,5,5,5,5,5,5,5,5,5,5,5,5,6,6,6,6,6,6,6,6,6,6,6,6,6,6,6,6,6,6,6,6,6,6,6,6,6,6,6,6,6,6,6,6,7,7,7,7,7,7,7,7,7,7,7,7,7,7,7,7,7,7,7,7,7,7,7,7,7,7,7,7,7,7,7,7,7,7,7,7,7,7,7,7,7,7,7,7,7,7,7,7,7,7,7,7,7,7,7,7,7,7,7,7,7,7,7,7,8,8,8,8,8,8,8,8,8,8,8,8,8,8,8,8,8,8,8,8,8,8,8,8,8,8,8,8,8,8,8,8,8,8,8,8,8,8,8,8,8,8,8,8,8,8,8,8,8,8,8,8,8,8,8,8,8,8,8,8,8,8,8,8,8,8,8,8,8,8,8,8,8,8,8,8,8,8,8,8,8,8,8,8,8,8,8,8,8,8,8,8,8,8,8,8,8,8,8,8,8,8,8,8,8,8,8,8,8,8,8,8,8,8,8,8,8,8,8,8,8,8,8,8,8,8,8,8]⟩⟩
def f143_j1 (x_:Int) : Option (Int×Int) :=
 bif (decide (x_ ≥ (4294967296:Int))) then
 some ((Int.fdiv x_ (2 ^ min (Int.toNat (32:Int)) u64.bits)),(32:Int))
 else
 some (x_,(0:Int))
def f143_j2 (z1 : Int×Int) : Option (Int×Int) :=
 bif (decide (z1.1 ≥ (65536:Int))) then
 some ((Int.fdiv z1.1 (2 ^ min (Int.toNat (16:Int)) u64.bits)),(i64.wrap (z1.2 + (16:Int))))
 else
 some (z1.1,z1.2)
def f143_j3 (z2 : Int×Int) : Option (Int×Int) :=
 bif (decide (z2.1 ≥ (256:Int))) then
 some ((Int.fdiv z2.1 (2 ^ min (Int.toNat (8:Int)) u64.bits)),(i64.wrap (z2.2 + (8:Int))))
 else
 some (z2.1,z2.2)
def f143 (x_:Int) : Option Int :=
 bindF (f143_j1 x_) fun z1 =>
 bindF (f143_j2 z1) fun z2 =>
 bindF (f143_j3 z2) fun z3 =>
 guardF (0 ≤ (u8.wrap z3.1) ∧ (u8.wrap z3.1) < (ByteArray.size f143_s1:Int)) <|
 some (i64.wrap (z3.2 + (i64.wrap (bt f143_s1 (u8.wrap z3.1)))))
def C143 : Con where
 X := Int
 Y := Int
 e := 0
 args x := [.dat T4 x]
 hin x := []
 F x := f143 x
 ret y := [.dat T2 y]
 hout y := []
 nout := 0
theorem C143_vc (x_:Int) (y:Int) (q : f143 x_ = some y) : VC Tryz.f143 C143 x_ y := by
 unfold f143 at q
 refine OL ?_
 obtain ⟨z1,hz1,q⟩ := bE q
 refine OQ ⟨[(0,⟨[(0,.dat T4 z1.1),(2,.dat T2 z1.2)],[],0⟩)],?_,?_⟩
 ·have q := hz1
  clear hz1
  unfold f143_j1 at q
  refine OL (cI q (fun q=>?_) (fun q=>?_))
  ·refine OL (AI (by decide) ?_)
   cases sE q
   refine E4 [] (R3 (AI TV TV))
  cases sE q
  refine E4 [] (R3 (AI TV TV))
 refine AI ?_ TV
 obtain ⟨z2,hz2,q⟩ := bE q
 refine OQ ⟨[(0,⟨[(0,.dat T4 z2.1),(2,.dat T2 z2.2)],[],0⟩)],?_,?_⟩
 ·have q := hz2
  clear hz2
  unfold f143_j2 at q
  refine OL (cI q (fun q=>?_) (fun q=>?_))
  ·refine OL (AI (by decide) ?_)
   cases sE q
   refine E4 [] (R3 (AI TV TV))
  cases sE q
  refine E4 [] (R3 (AI TV TV))
 refine AI ?_ TV
 obtain ⟨z3,hz3,q⟩ := bE q
 refine OQ ⟨[(0,⟨[(0,.dat T4 z3.1),(2,.dat T2 z3.2)],[],0⟩)],?_,?_⟩
 ·have q := hz3
  clear hz3
  unfold f143_j3 at q
  refine OL (cI q (fun q=>?_) (fun q=>?_))
  ·refine OL (AI (by decide) ?_)
   cases sE q
   refine E4 [] (R3 (AI TV TV))
  cases sE q
  refine E4 [] (R3 (AI TV TV))
 refine AI (OL (gI q (fun q=>?_))) TV
 cases sE q
 refine AI rfl (E4 [] (R2 (AI TV TV)))
theorem C143_holds : HP C143 143 := hH Tryz.f143 (by kernel_rfl) rfl (fun x y q=>C143_vc x y q)
theorem f143_in : InP 143 := inP (by kernel_rfl)
def f137 (x_:Int) : Option Int :=
 bindF (f143 x_) fun r1 =>
 some (i64.wrap ((64:Int) - r1))
def C137 : Con where
 X := Int
 Y := Int
 e := 0
 args x := [.dat T4 x]
 hin x := []
 F x := f137 x
 ret y := [.dat T2 y]
 hout y := []
 nout := 0
theorem C137_vc (x_:Int) (y:Int) (q : f137 x_ = some y) : VC Tryz.f137 C137 x_ y := by
 unfold f137 at q
 refine OL (OL ?_)
 obtain ⟨r1,hr1,q⟩ := bE q
 refine OL (AI f143_in (cV (cQ C143 x_ r1 [] false C143_holds hr1 rfl rfl (AI rfl (K0 ?_)))))
 cases sE q
 refine AI rfl (E4 [] (R2 (AI TV TV)))
theorem C137_holds : HP C137 137 := hH Tryz.f137 (by kernel_rfl) rfl (fun x y q=>C137_vc x y q)
theorem f137_in : InP 137 := inP (by kernel_rfl)
end Go.Proofs
