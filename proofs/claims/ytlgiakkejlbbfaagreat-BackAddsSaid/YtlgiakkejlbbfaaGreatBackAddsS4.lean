import Derived.Test.YtlgiakkejlbbfaaGreatBackAddsS3
set_option linter.unusedVariables false
set_option maxRecDepth 100000
set_option maxHeartbeats 8000000
namespace Go.Proofs
open Go.AM
open IntKind (i64 u64 i32 u32 i16 u16 i8 u8)
def f115 (n:Int) : Option Int :=
 bif (decide (n < (0:Int))) then
 some (u64.wrap ((u64.wrap (i64.wrap (0 - (i64.wrap (n + (1:Int)))))) + (1:Int)))
 else
 some (u64.wrap n)
def C115 : Con where
 X := Int
 Y := Int
 e := 0
 args x := [.dat T2 x]
 hin x := []
 F x := f115 x
 ret y := [.dat T4 y]
 hout y := []
 nout := 0
theorem C115_vc (n:Int) (y:Int) (q : f115 n = some y) : VC Tryz.f115 C115 n y := by
 unfold f115 at q
 refine OL (OL (OL (cI q (fun q=>?_) (fun q=>?_))))
 ·cases sE q
  refine OL (AI rfl (E4 [] (R2 (AI TV TV))))
 cases sE q
 refine OL (AI rfl (E4 [] (R2 (AI TV TV))))
theorem C115_holds : HP C115 115 := hH Tryz.f115 (by kernel_rfl) rfl (fun x y q=>C115_vc x y q)
theorem f115_in : InP 115 := inP (by kernel_rfl)
def f62 (n:Int) : Option (Bool×Int) :=
 bindF (f115 n) fun r1 =>
 some ((decide (n < (0:Int))),r1)
def C62 : Con where
 X := Int
 Y := Bool×Int
 e := 0
 args x := [.dat T2 x]
 hin x := []
 F x := f62 x
 ret y := [.raw true [(.d .bool y.1),(.d T4 y.2),(.d T4 (0:Int)),(.d T4 (0:Int)),(.d T4 (0:Int))]]
 hout y := []
 nout := 0
theorem C62_vc (n:Int) (y : Bool×Int) (q : f62 n = some y) : VC Tryz.f62 C62 n y := by
 unfold f62 at q
 refine OL (OL ?_)
 obtain ⟨r1,hr1,q⟩ := bE q
 refine OL (AI f115_in (cV (cQ C115 n r1 [] false C115_holds hr1 rfl rfl (AI rfl (K0 (OL ?_))))))
 cases sE q
 refine AI rfl (E4 [] (AI rfl (AJ TV)))
theorem C62_holds : HP C62 62 := hH Tryz.f62 (by kernel_rfl) rfl (fun x y q=>C62_vc x y q)
theorem f62_in : InP 62 := inP (by kernel_rfl)
def f117_l1 (a_0:Int) (a_1:Int) (a_2:Int) (a_3:Int) (b_0:Int) (b_1:Int) (b_2:Int) (b_3:Int) (go : (Int×Int×Int×Int×Int×Int) → Option (Int×Int×Int×Int)) (carry:Int) (i:Int) (c3_0:Int) (c3_1:Int) (c3_2:Int) (c3_3:Int) : Option (Int×Int×Int×Int) :=
 bif (decide (i < (4:Int))) then
 guardF (0 ≤ i ∧ i < (4:Int)) <|
 pickF i
 [(bif (decide ((u64.wrap (a_0 + b_0)) < a_0)) then
 go ((1:Int),(i64.wrap (i + (1:Int))),(u64.wrap ((u64.wrap (a_0 + b_0)) + carry)),c3_1,c3_2,c3_3)
 else
 bif (decide ((u64.wrap ((u64.wrap (a_0 + b_0)) + carry)) < (u64.wrap (a_0 + b_0)))) then
 go ((1:Int),(i64.wrap (i + (1:Int))),(u64.wrap ((u64.wrap (a_0 + b_0)) + carry)),c3_1,c3_2,c3_3)
 else
 go ((0:Int),(i64.wrap (i + (1:Int))),(u64.wrap ((u64.wrap (a_0 + b_0)) + carry)),c3_1,c3_2,c3_3)),
 (bif (decide ((u64.wrap (a_1 + b_1)) < a_1)) then
 go ((1:Int),(i64.wrap (i + (1:Int))),c3_0,(u64.wrap ((u64.wrap (a_1 + b_1)) + carry)),c3_2,c3_3)
 else
 bif (decide ((u64.wrap ((u64.wrap (a_1 + b_1)) + carry)) < (u64.wrap (a_1 + b_1)))) then
 go ((1:Int),(i64.wrap (i + (1:Int))),c3_0,(u64.wrap ((u64.wrap (a_1 + b_1)) + carry)),c3_2,c3_3)
 else
 go ((0:Int),(i64.wrap (i + (1:Int))),c3_0,(u64.wrap ((u64.wrap (a_1 + b_1)) + carry)),c3_2,c3_3)),
 (bif (decide ((u64.wrap (a_2 + b_2)) < a_2)) then
 go ((1:Int),(i64.wrap (i + (1:Int))),c3_0,c3_1,(u64.wrap ((u64.wrap (a_2 + b_2)) + carry)),c3_3)
 else
 bif (decide ((u64.wrap ((u64.wrap (a_2 + b_2)) + carry)) < (u64.wrap (a_2 + b_2)))) then
 go ((1:Int),(i64.wrap (i + (1:Int))),c3_0,c3_1,(u64.wrap ((u64.wrap (a_2 + b_2)) + carry)),c3_3)
 else
 go ((0:Int),(i64.wrap (i + (1:Int))),c3_0,c3_1,(u64.wrap ((u64.wrap (a_2 + b_2)) + carry)),c3_3)),
 (bif (decide ((u64.wrap (a_3 + b_3)) < a_3)) then
 go ((1:Int),(i64.wrap (i + (1:Int))),c3_0,c3_1,c3_2,(u64.wrap ((u64.wrap (a_3 + b_3)) + carry)))
 else
 bif (decide ((u64.wrap ((u64.wrap (a_3 + b_3)) + carry)) < (u64.wrap (a_3 + b_3)))) then
 go ((1:Int),(i64.wrap (i + (1:Int))),c3_0,c3_1,c3_2,(u64.wrap ((u64.wrap (a_3 + b_3)) + carry)))
 else
 go ((0:Int),(i64.wrap (i + (1:Int))),c3_0,c3_1,c3_2,(u64.wrap ((u64.wrap (a_3 + b_3)) + carry))))]
 else
 some (c3_0,c3_1,c3_2,c3_3)
def f117 (a_0:Int) (a_1:Int) (a_2:Int) (a_3:Int) (b_0:Int) (b_1:Int) (b_2:Int) (b_3:Int) : Option (Int×Int×Int×Int) :=
 bindF (loopF (fun go x=>f117_l1 a_0 a_1 a_2 a_3 b_0 b_1 b_2 b_3 go x.1 x.2.1 x.2.2.1 x.2.2.2.1 x.2.2.2.2.1 x.2.2.2.2.2) fuelN ((0:Int),(0:Int),(0:Int),(0:Int),(0:Int),(0:Int))) fun z3 =>
 some (z3.1,z3.2.1,z3.2.2.1,z3.2.2.2)
def C117 : Con where
 X := Int×Int×Int×Int×Int×Int×Int×Int
 Y := Int×Int×Int×Int
 e := 0
 args x := [.raw true [(.d T4 x.1),(.d T4 x.2.1),(.d T4 x.2.2.1),(.d T4 x.2.2.2.1)],.raw true [(.d T4 x.2.2.2.2.1),(.d T4 x.2.2.2.2.2.1),(.d T4 x.2.2.2.2.2.2.1),(.d T4 x.2.2.2.2.2.2.2)]]
 hin x := []
 F x := f117 x.1 x.2.1 x.2.2.1 x.2.2.2.1 x.2.2.2.2.1 x.2.2.2.2.2.1 x.2.2.2.2.2.2.1 x.2.2.2.2.2.2.2
 ret y := [.raw true [(.d T4 y.1),(.d T4 y.2.1),(.d T4 y.2.2.1),(.d T4 y.2.2.2)]]
 hout y := []
 nout := 0
theorem C117_vc (a_0:Int) (a_1:Int) (a_2:Int) (a_3:Int) (b_0:Int) (b_1:Int) (b_2:Int) (b_3:Int) (y : Int×Int×Int×Int) (q : f117 a_0 a_1 a_2 a_3 b_0 b_1 b_2 b_3 = some y) : VC Tryz.f117 C117 (a_0,a_1,a_2,a_3,b_0,b_1,b_2,b_3) y := by
 unfold f117 at q
 refine OL (OL (OL (OL (OL ?_))))
 obtain ⟨z3,hz3,q⟩ := bE q
 refine lI (Int×Int×Int×Int×Int×Int) (Int×Int×Int×Int) (fun x=>⟨[(2,P0 0 0),(3,P0 1 0),(4,P0 2 0),(5,P0 3 0),(6,.dat T4 x.1),(7,.dat T2 x.2.1)],[(0,.cells [(.d T4 a_0),(.d T4 a_1),(.d T4 a_2),(.d T4 a_3)]),(1,.cells [(.d T4 b_0),(.d T4 b_1),(.d T4 b_2),(.d T4 b_3)]),(2,.cells [(.d T4 (0:Int)),(.d T4 (0:Int)),(.d T4 (0:Int)),(.d T4 (0:Int))]),(3,.cells [(.d T4 x.2.2.1),(.d T4 x.2.2.2.1),(.d T4 x.2.2.2.2.1),(.d T4 x.2.2.2.2.2)])],4⟩) (fun z=>[(2,⟨[(4,P0 0 0),(5,P0 1 0)],[(0,.cells [(.d T4 (0:Int)),(.d T4 (0:Int)),(.d T4 (0:Int)),(.d T4 (0:Int))]),(1,.cells [(.d T4 z.1),(.d T4 z.2.1),(.d T4 z.2.2.1),(.d T4 z.2.2.2)])],2⟩)]) (loopF (fun go x=>f117_l1 a_0 a_1 a_2 a_3 b_0 b_1 b_2 b_3 go x.1 x.2.1 x.2.2.1 x.2.2.2.1 x.2.2.2.2.1 x.2.2.2.2.2)) fuelN ((0:Int),(0:Int),(0:Int),(0:Int),(0:Int),(0:Int)) z3 (AI hz3 (AI (E4 I4 (R3 (AI (R4 TV) (R4 TV)))) (AI (fun _ _ h=>lZ h) (AI (fun m=>curI (fun carry=>curI (fun i=>curI (fun c3_0=>curI (fun c3_1=>curI (fun c3_2=>fun c3_3 z q=>?_)))))) ?_))))
 ·have q : f117_l1 a_0 a_1 a_2 a_3 b_0 b_1 b_2 b_3 (loopF (fun go x=>f117_l1 a_0 a_1 a_2 a_3 b_0 b_1 b_2 b_3 go x.1 x.2.1 x.2.2.1 x.2.2.2.1 x.2.2.2.2.1 x.2.2.2.2.2) m) carry i c3_0 c3_1 c3_2 c3_3 = some z := q
  unfold f117_l1 at q
  refine OL (OL (cI q (fun q=>?_) (fun q=>?_)))
  ·refine OL (OL (EI (.take 0 (.take 1 (.take 2 (.take 3 (.take 4 (.take 5 (.take 6 (.take 7 .done)))))))) (EI [] (EI [] (AI rfl (gI q (fun q=>?_)))))))
   refine AI (fun hk4=>?_) ?_
   ·have q := pickE q hk4
    dsimp only [nthO] at q
    refine AI (rE hk4 (by decide)) (AI (fun _=>?_) (AI (fun h=>absurd (hk4.symm.trans h) (by decide)) (AI (fun h=>absurd (hk4.symm.trans h) (by decide)) (AI (fun h=>absurd (hk4.symm.trans h) (by decide)) TV))))
    refine OL (OL (AI (rE hk4 (by decide)) (AI (fun _=>?_) (AI (fun h=>absurd (hk4.symm.trans h) (by decide)) (AI (fun h=>absurd (hk4.symm.trans h) (by decide)) (AI (fun h=>absurd (hk4.symm.trans h) (by decide)) TV))))))
    refine OL (OL (AI (rE hk4 (by decide)) (AI (fun _=>?_) (AI (fun h=>absurd (hk4.symm.trans h) (by decide)) (AI (fun h=>absurd (hk4.symm.trans h) (by decide)) (AI (fun h=>absurd (hk4.symm.trans h) (by decide)) TV))))))
    refine cN q (fun q=>?_) (fun q=>?_)
    ·refine gY (gY (cF (cI q (fun q=>?_) (fun q=>?_))))
     ·refine EI ((1:Int),(i64.wrap (i + (1:Int))),(u64.wrap ((u64.wrap (a_0 + b_0)) + carry)),c3_1,c3_2,c3_3) (AI q (E4 I4 (R3 (AI (R4 TV) (R4 TV)))))
     refine EI ((0:Int),(i64.wrap (i + (1:Int))),(u64.wrap ((u64.wrap (a_0 + b_0)) + carry)),c3_1,c3_2,c3_3) (AI q (E4 I4 (R3 (AI (R4 TV) (R4 TV)))))
    refine gN (gN (cT (cT (EI ((1:Int),(i64.wrap (i + (1:Int))),(u64.wrap ((u64.wrap (a_0 + b_0)) + carry)),c3_1,c3_2,c3_3) (AI q (E4 I4 (R3 (AI (R4 TV) (R4 TV)))))))))
   refine AI (fun hk4=>?_) ?_
   ·have q := pickE q hk4
    dsimp only [nthO] at q
    refine AI (rE hk4 (by decide)) (AI (fun h=>absurd (hk4.symm.trans h) (by decide)) ?_)
    refine AI (fun _=>?_) (AI (fun h=>absurd (hk4.symm.trans h) (by decide)) (AI (fun h=>absurd (hk4.symm.trans h) (by decide)) TV))
    refine OL (OL (AI (rE hk4 (by decide)) (AI (fun h=>absurd (hk4.symm.trans h) (by decide)) ?_)))
    refine AI (fun _=>?_) (AI (fun h=>absurd (hk4.symm.trans h) (by decide)) (AI (fun h=>absurd (hk4.symm.trans h) (by decide)) TV))
    refine OL (OL (AI (rE hk4 (by decide)) (AI (fun h=>absurd (hk4.symm.trans h) (by decide)) ?_)))
    refine AI (fun _=>?_) (AI (fun h=>absurd (hk4.symm.trans h) (by decide)) (AI (fun h=>absurd (hk4.symm.trans h) (by decide)) TV))
    refine cN q (fun q=>?_) (fun q=>?_)
    ·refine gY (gY (cF (cI q (fun q=>?_) (fun q=>?_))))
     ·refine EI ((1:Int),(i64.wrap (i + (1:Int))),c3_0,(u64.wrap ((u64.wrap (a_1 + b_1)) + carry)),c3_2,c3_3) (AI q (E4 I4 (R3 (AI (R4 TV) (R4 TV)))))
     refine EI ((0:Int),(i64.wrap (i + (1:Int))),c3_0,(u64.wrap ((u64.wrap (a_1 + b_1)) + carry)),c3_2,c3_3) (AI q (E4 I4 (R3 (AI (R4 TV) (R4 TV)))))
    refine gN (gN (cT (cT (EI ((1:Int),(i64.wrap (i + (1:Int))),c3_0,(u64.wrap ((u64.wrap (a_1 + b_1)) + carry)),c3_2,c3_3) (AI q (E4 I4 (R3 (AI (R4 TV) (R4 TV)))))))))
   refine AI (fun hk4=>?_) ?_
   ·have q := pickE q hk4
    dsimp only [nthO] at q
    refine AI (rE hk4 (by decide)) (AI (fun h=>absurd (hk4.symm.trans h) (by decide)) ?_)
    refine AI (fun h=>absurd (hk4.symm.trans h) (by decide)) ?_
    refine AI (fun _=>?_) (AI (fun h=>absurd (hk4.symm.trans h) (by decide)) TV)
    refine OL (OL (AI (rE hk4 (by decide)) (AI (fun h=>absurd (hk4.symm.trans h) (by decide)) ?_)))
    refine AI (fun h=>absurd (hk4.symm.trans h) (by decide)) ?_
    refine AI (fun _=>?_) (AI (fun h=>absurd (hk4.symm.trans h) (by decide)) TV)
    refine OL (OL (AI (rE hk4 (by decide)) (AI (fun h=>absurd (hk4.symm.trans h) (by decide)) ?_)))
    refine AI (fun h=>absurd (hk4.symm.trans h) (by decide)) ?_
    refine AI (fun _=>?_) (AI (fun h=>absurd (hk4.symm.trans h) (by decide)) TV)
    refine cN q (fun q=>?_) (fun q=>?_)
    ·refine gY (gY (cF (cI q (fun q=>?_) (fun q=>?_))))
     ·refine EI ((1:Int),(i64.wrap (i + (1:Int))),c3_0,c3_1,(u64.wrap ((u64.wrap (a_2 + b_2)) + carry)),c3_3) (AI q (E4 I4 (R3 (AI (R4 TV) (R4 TV)))))
     refine EI ((0:Int),(i64.wrap (i + (1:Int))),c3_0,c3_1,(u64.wrap ((u64.wrap (a_2 + b_2)) + carry)),c3_3) (AI q (E4 I4 (R3 (AI (R4 TV) (R4 TV)))))
    refine gN (gN (cT (cT (EI ((1:Int),(i64.wrap (i + (1:Int))),c3_0,c3_1,(u64.wrap ((u64.wrap (a_2 + b_2)) + carry)),c3_3) (AI q (E4 I4 (R3 (AI (R4 TV) (R4 TV)))))))))
   refine AI (fun hk4=>?_) TV
   have q := pickE q hk4
   dsimp only [nthO] at q
   refine AI (rE hk4 (by decide)) (AI (fun h=>absurd (hk4.symm.trans h) (by decide)) ?_)
   refine AI (fun h=>absurd (hk4.symm.trans h) (by decide)) ?_
   refine AI (fun h=>absurd (hk4.symm.trans h) (by decide)) ?_
   refine AI (fun _=>?_) TV
   refine OL (OL (AI (rE hk4 (by decide)) (AI (fun h=>absurd (hk4.symm.trans h) (by decide)) ?_)))
   refine AI (fun h=>absurd (hk4.symm.trans h) (by decide)) ?_
   refine AI (fun h=>absurd (hk4.symm.trans h) (by decide)) ?_
   refine AI (fun _=>?_) TV
   refine OL (OL (AI (rE hk4 (by decide)) (AI (fun h=>absurd (hk4.symm.trans h) (by decide)) ?_)))
   refine AI (fun h=>absurd (hk4.symm.trans h) (by decide)) ?_
   refine AI (fun h=>absurd (hk4.symm.trans h) (by decide)) ?_
   refine AI (fun _=>?_) TV
   refine cN q (fun q=>?_) (fun q=>?_)
   ·refine gY (gY (cF (cI q (fun q=>?_) (fun q=>?_))))
    ·refine EI ((1:Int),(i64.wrap (i + (1:Int))),c3_0,c3_1,c3_2,(u64.wrap ((u64.wrap (a_3 + b_3)) + carry))) (AI q (E4 I4 (R3 (AI (R4 TV) (R4 TV)))))
    refine EI ((0:Int),(i64.wrap (i + (1:Int))),c3_0,c3_1,c3_2,(u64.wrap ((u64.wrap (a_3 + b_3)) + carry))) (AI q (E4 I4 (R3 (AI (R4 TV) (R4 TV)))))
   refine gN (gN (cT (cT (EI ((1:Int),(i64.wrap (i + (1:Int))),c3_0,c3_1,c3_2,(u64.wrap ((u64.wrap (a_3 + b_3)) + carry))) (AI q (E4 I4 (R3 (AI (R4 TV) (R4 TV)))))))))
  cases sE q
  refine E4 [(0,some 2),(1,some 3)] (AI rfl (AI (R2 TV) (R2 TV)))
 refine AI (OL (OL ?_)) TV
 cases sE q
 refine AI rfl (E4 [] (AI rfl (AJ TV)))
theorem C117_holds : HP C117 117 := hH Tryz.f117 (by kernel_rfl) rfl (fun x y q=>C117_vc x.1 x.2.1 x.2.2.1 x.2.2.2.1 x.2.2.2.2.1 x.2.2.2.2.2.1 x.2.2.2.2.2.2.1 x.2.2.2.2.2.2.2 y q)
theorem f117_in : InP 117 := inP (by kernel_rfl)
def f119_l1 (a_0:Int) (a_1:Int) (a_2:Int) (a_3:Int) (b_0:Int) (b_1:Int) (b_2:Int) (b_3:Int) (go : Int → Option (Sum Bool Unit)) (i:Int) : Option (Sum Bool Unit) :=
 bif (decide (i ≥ (0:Int))) then
 guardF (0 ≤ i ∧ i < (4:Int)) <|
 pickF i
 [(bif (a_0 != b_0) then
 some (Sum.inl (decide (a_0 < b_0)))
 else
 go (i64.wrap (i - (1:Int)))),
 (bif (a_1 != b_1) then
 some (Sum.inl (decide (a_1 < b_1)))
 else
 go (i64.wrap (i - (1:Int)))),
 (bif (a_2 != b_2) then
 some (Sum.inl (decide (a_2 < b_2)))
 else
 go (i64.wrap (i - (1:Int)))),
 (bif (a_3 != b_3) then
 some (Sum.inl (decide (a_3 < b_3)))
 else
 go (i64.wrap (i - (1:Int))))]
 else
 some (Sum.inr ())
def f119 (a_0:Int) (a_1:Int) (a_2:Int) (a_3:Int) (b_0:Int) (b_1:Int) (b_2:Int) (b_3:Int) : Option Bool :=
 bindF (loopF (fun go x=>f119_l1 a_0 a_1 a_2 a_3 b_0 b_1 b_2 b_3 go x) fuelN (3:Int)) fun z2 =>
 sumF z2 (fun z2a =>
 some z2a) (fun z2b =>
 some false)
def C119 : Con where
 X := Int×Int×Int×Int×Int×Int×Int×Int
 Y := Bool
 e := 0
 args x := [.raw true [(.d T4 x.1),(.d T4 x.2.1),(.d T4 x.2.2.1),(.d T4 x.2.2.2.1)],.raw true [(.d T4 x.2.2.2.2.1),(.d T4 x.2.2.2.2.2.1),(.d T4 x.2.2.2.2.2.2.1),(.d T4 x.2.2.2.2.2.2.2)]]
 hin x := []
 F x := f119 x.1 x.2.1 x.2.2.1 x.2.2.2.1 x.2.2.2.2.1 x.2.2.2.2.2.1 x.2.2.2.2.2.2.1 x.2.2.2.2.2.2.2
 ret y := [.dat .bool y]
 hout y := []
 nout := 0
theorem C119_vc (a_0:Int) (a_1:Int) (a_2:Int) (a_3:Int) (b_0:Int) (b_1:Int) (b_2:Int) (b_3:Int) (y : Bool) (q : f119 a_0 a_1 a_2 a_3 b_0 b_1 b_2 b_3 = some y) : VC Tryz.f119 C119 (a_0,a_1,a_2,a_3,b_0,b_1,b_2,b_3) y := by
 unfold f119 at q
 refine OL (OL (OL ?_))
 obtain ⟨z2,hz2,q⟩ := bE q
 refine lI Int (Sum Bool Unit) (fun x=>⟨[(2,P0 0 0),(3,P0 1 0),(5,.dat T2 x)],[(0,.cells [(.d T4 a_0),(.d T4 a_1),(.d T4 a_2),(.d T4 a_3)]),(1,.cells [(.d T4 b_0),(.d T4 b_1),(.d T4 b_2),(.d T4 b_3)])],2⟩) (fun z=>Sum.elim (fun za=>[(1,⟨[(4,.dat .bool za)],[],0⟩)]) (fun zb=>[(2,⟨[],[],0⟩)]) z) (loopF (fun go x=>f119_l1 a_0 a_1 a_2 a_3 b_0 b_1 b_2 b_3 go x)) fuelN (3:Int) z2 (AI hz2 (AI (E4 I2 (R2 (AI (R2 TV) (R2 TV)))) (AI (fun _ _ h=>lZ h) (AI (fun m=>fun i z q=>?_) ?_))))
 ·have q : f119_l1 a_0 a_1 a_2 a_3 b_0 b_1 b_2 b_3 (loopF (fun go x=>f119_l1 a_0 a_1 a_2 a_3 b_0 b_1 b_2 b_3 go x) m) i = some z := q
  unfold f119_l1 at q
  refine OL (OL (cI q (fun q=>?_) (fun q=>?_)))
  ·refine OL (OL (EI (.take 0 (.take 1 (.take 2 (.take 3 (.take 4 (.take 5 (.take 6 .done))))))) (EI [] (EI [] (AI rfl (gI q (fun q=>?_)))))))
   refine AI (fun hk3=>?_) ?_
   ·have q := pickE q hk3
    dsimp only [nthO] at q
    refine AI (rE hk3 (by decide)) (AI (fun _=>?_) (AI (fun h=>absurd (hk3.symm.trans h) (by decide)) (AI (fun h=>absurd (hk3.symm.trans h) (by decide)) (AI (fun h=>absurd (hk3.symm.trans h) (by decide)) TV))))
    refine cI q (fun q=>?_) (fun q=>?_)
    ·refine OL (EI (.take 0 (.take 1 (.take 2 (.take 3 (.take 4 (.take 5 (.take 6 (.take 7 .done)))))))) (EI [] (EI [] (AI rfl (AI (rE hk3 (by decide)) (AI (fun _=>?_) (AI (fun h=>absurd (hk3.symm.trans h) (by decide)) (AI (fun h=>absurd (hk3.symm.trans h) (by decide)) (AI (fun h=>absurd (hk3.symm.trans h) (by decide)) TV)))))))))
     refine AI (rE hk3 (by decide)) (AI (fun _=>?_) (AI (fun h=>absurd (hk3.symm.trans h) (by decide)) (AI (fun h=>absurd (hk3.symm.trans h) (by decide)) (AI (fun h=>absurd (hk3.symm.trans h) (by decide)) TV))))
     cases sE q
     refine E4 [] (R2 (AI TV TV))
    refine EI (i64.wrap (i - (1:Int))) (AI q (E4 I2 (R2 (AI (R2 TV) (R2 TV)))))
   refine AI (fun hk3=>?_) ?_
   ·have q := pickE q hk3
    dsimp only [nthO] at q
    refine AI (rE hk3 (by decide)) (AI (fun h=>absurd (hk3.symm.trans h) (by decide)) ?_)
    refine AI (fun _=>?_) (AI (fun h=>absurd (hk3.symm.trans h) (by decide)) (AI (fun h=>absurd (hk3.symm.trans h) (by decide)) TV))
    refine cI q (fun q=>?_) (fun q=>?_)
    ·refine OL (EI (.take 0 (.take 1 (.take 2 (.take 3 (.take 4 (.take 5 (.take 6 (.take 7 .done)))))))) (EI [] (EI [] (AI rfl (AI (rE hk3 (by decide)) (AI (fun h=>absurd (hk3.symm.trans h) (by decide)) ?_))))))
     refine AI (fun _=>?_) (AI (fun h=>absurd (hk3.symm.trans h) (by decide)) (AI (fun h=>absurd (hk3.symm.trans h) (by decide)) TV))
     refine AI (rE hk3 (by decide)) (AI (fun h=>absurd (hk3.symm.trans h) (by decide)) ?_)
     refine AI (fun _=>?_) (AI (fun h=>absurd (hk3.symm.trans h) (by decide)) (AI (fun h=>absurd (hk3.symm.trans h) (by decide)) TV))
     cases sE q
     refine E4 [] (R2 (AI TV TV))
    refine EI (i64.wrap (i - (1:Int))) (AI q (E4 I2 (R2 (AI (R2 TV) (R2 TV)))))
   refine AI (fun hk3=>?_) ?_
   ·have q := pickE q hk3
    dsimp only [nthO] at q
    refine AI (rE hk3 (by decide)) (AI (fun h=>absurd (hk3.symm.trans h) (by decide)) ?_)
    refine AI (fun h=>absurd (hk3.symm.trans h) (by decide)) ?_
    refine AI (fun _=>?_) (AI (fun h=>absurd (hk3.symm.trans h) (by decide)) TV)
    refine cI q (fun q=>?_) (fun q=>?_)
    ·refine OL (EI (.take 0 (.take 1 (.take 2 (.take 3 (.take 4 (.take 5 (.take 6 (.take 7 .done)))))))) (EI [] (EI [] (AI rfl (AI (rE hk3 (by decide)) (AI (fun h=>absurd (hk3.symm.trans h) (by decide)) ?_))))))
     refine AI (fun h=>absurd (hk3.symm.trans h) (by decide)) ?_
     refine AI (fun _=>?_) (AI (fun h=>absurd (hk3.symm.trans h) (by decide)) TV)
     refine AI (rE hk3 (by decide)) (AI (fun h=>absurd (hk3.symm.trans h) (by decide)) ?_)
     refine AI (fun h=>absurd (hk3.symm.trans h) (by decide)) ?_
     refine AI (fun _=>?_) (AI (fun h=>absurd (hk3.symm.trans h) (by decide)) TV)
     cases sE q
     refine E4 [] (R2 (AI TV TV))
    refine EI (i64.wrap (i - (1:Int))) (AI q (E4 I2 (R2 (AI (R2 TV) (R2 TV)))))
   refine AI (fun hk3=>?_) TV
   have q := pickE q hk3
   dsimp only [nthO] at q
   refine AI (rE hk3 (by decide)) (AI (fun h=>absurd (hk3.symm.trans h) (by decide)) ?_)
   refine AI (fun h=>absurd (hk3.symm.trans h) (by decide)) ?_
   refine AI (fun h=>absurd (hk3.symm.trans h) (by decide)) ?_
   refine AI (fun _=>?_) TV
   refine cI q (fun q=>?_) (fun q=>?_)
   ·refine OL (EI (.take 0 (.take 1 (.take 2 (.take 3 (.take 4 (.take 5 (.take 6 (.take 7 .done)))))))) (EI [] (EI [] (AI rfl (AI (rE hk3 (by decide)) (AI (fun h=>absurd (hk3.symm.trans h) (by decide)) ?_))))))
    refine AI (fun h=>absurd (hk3.symm.trans h) (by decide)) ?_
    refine AI (fun h=>absurd (hk3.symm.trans h) (by decide)) ?_
    refine AI (fun _=>?_) TV
    refine AI (rE hk3 (by decide)) (AI (fun h=>absurd (hk3.symm.trans h) (by decide)) ?_)
    refine AI (fun h=>absurd (hk3.symm.trans h) (by decide)) ?_
    refine AI (fun h=>absurd (hk3.symm.trans h) (by decide)) ?_
    refine AI (fun _=>?_) TV
    cases sE q
    refine E4 [] (R2 (AI TV TV))
   refine EI (i64.wrap (i - (1:Int))) (AI q (E4 I2 (R2 (AI (R2 TV) (R2 TV)))))
  cases sE q
  refine E4 [] (AI rfl (AI TV TV))
 rcases z2 with z2a | z2b
 ·dsimp only [sumF] at q
  refine AI ?_ TV
  cases sE q
  refine AI rfl (E4 [] (R2 (AI TV TV)))
 dsimp only [sumF] at q
 refine AI (OL ?_) TV
 cases sE q
 refine AI rfl (E4 [] (R2 (AI TV TV)))
theorem C119_holds : HP C119 119 := hH Tryz.f119 (by kernel_rfl) rfl (fun x y q=>C119_vc x.1 x.2.1 x.2.2.1 x.2.2.2.1 x.2.2.2.2.1 x.2.2.2.2.2.1 x.2.2.2.2.2.2.1 x.2.2.2.2.2.2.2 y q)
theorem f119_in : InP 119 := inP (by kernel_rfl)
def f120_l1 (a_0:Int) (a_1:Int) (a_2:Int) (a_3:Int) (b_0:Int) (b_1:Int) (b_2:Int) (b_3:Int) (go : (Int×Int×Int×Int×Int×Int) → Option (Int×Int×Int×Int)) (borrow:Int) (i:Int) (c3_0:Int) (c3_1:Int) (c3_2:Int) (c3_3:Int) : Option (Int×Int×Int×Int) :=
 bif (decide (i < (4:Int))) then
 guardF (0 ≤ i ∧ i < (4:Int)) <|
 pickF i
 [(bif (decide (a_0 < b_0)) then
 go ((1:Int),(i64.wrap (i + (1:Int))),(u64.wrap ((u64.wrap (a_0 - b_0)) - borrow)),c3_1,c3_2,c3_3)
 else
 bif (decide ((u64.wrap (a_0 - b_0)) < borrow)) then
 go ((1:Int),(i64.wrap (i + (1:Int))),(u64.wrap ((u64.wrap (a_0 - b_0)) - borrow)),c3_1,c3_2,c3_3)
 else
 go ((0:Int),(i64.wrap (i + (1:Int))),(u64.wrap ((u64.wrap (a_0 - b_0)) - borrow)),c3_1,c3_2,c3_3)),
 (bif (decide (a_1 < b_1)) then
 go ((1:Int),(i64.wrap (i + (1:Int))),c3_0,(u64.wrap ((u64.wrap (a_1 - b_1)) - borrow)),c3_2,c3_3)
 else
 bif (decide ((u64.wrap (a_1 - b_1)) < borrow)) then
 go ((1:Int),(i64.wrap (i + (1:Int))),c3_0,(u64.wrap ((u64.wrap (a_1 - b_1)) - borrow)),c3_2,c3_3)
 else
 go ((0:Int),(i64.wrap (i + (1:Int))),c3_0,(u64.wrap ((u64.wrap (a_1 - b_1)) - borrow)),c3_2,c3_3)),
 (bif (decide (a_2 < b_2)) then
 go ((1:Int),(i64.wrap (i + (1:Int))),c3_0,c3_1,(u64.wrap ((u64.wrap (a_2 - b_2)) - borrow)),c3_3)
 else
 bif (decide ((u64.wrap (a_2 - b_2)) < borrow)) then
 go ((1:Int),(i64.wrap (i + (1:Int))),c3_0,c3_1,(u64.wrap ((u64.wrap (a_2 - b_2)) - borrow)),c3_3)
 else
 go ((0:Int),(i64.wrap (i + (1:Int))),c3_0,c3_1,(u64.wrap ((u64.wrap (a_2 - b_2)) - borrow)),c3_3)),
 (bif (decide (a_3 < b_3)) then
 go ((1:Int),(i64.wrap (i + (1:Int))),c3_0,c3_1,c3_2,(u64.wrap ((u64.wrap (a_3 - b_3)) - borrow)))
 else
 bif (decide ((u64.wrap (a_3 - b_3)) < borrow)) then
 go ((1:Int),(i64.wrap (i + (1:Int))),c3_0,c3_1,c3_2,(u64.wrap ((u64.wrap (a_3 - b_3)) - borrow)))
 else
 go ((0:Int),(i64.wrap (i + (1:Int))),c3_0,c3_1,c3_2,(u64.wrap ((u64.wrap (a_3 - b_3)) - borrow))))]
 else
 some (c3_0,c3_1,c3_2,c3_3)
def f120 (a_0:Int) (a_1:Int) (a_2:Int) (a_3:Int) (b_0:Int) (b_1:Int) (b_2:Int) (b_3:Int) : Option (Int×Int×Int×Int) :=
 bindF (loopF (fun go x=>f120_l1 a_0 a_1 a_2 a_3 b_0 b_1 b_2 b_3 go x.1 x.2.1 x.2.2.1 x.2.2.2.1 x.2.2.2.2.1 x.2.2.2.2.2) fuelN ((0:Int),(0:Int),(0:Int),(0:Int),(0:Int),(0:Int))) fun z3 =>
 some (z3.1,z3.2.1,z3.2.2.1,z3.2.2.2)
def C120 : Con where
 X := Int×Int×Int×Int×Int×Int×Int×Int
 Y := Int×Int×Int×Int
 e := 0
 args x := [.raw true [(.d T4 x.1),(.d T4 x.2.1),(.d T4 x.2.2.1),(.d T4 x.2.2.2.1)],.raw true [(.d T4 x.2.2.2.2.1),(.d T4 x.2.2.2.2.2.1),(.d T4 x.2.2.2.2.2.2.1),(.d T4 x.2.2.2.2.2.2.2)]]
 hin x := []
 F x := f120 x.1 x.2.1 x.2.2.1 x.2.2.2.1 x.2.2.2.2.1 x.2.2.2.2.2.1 x.2.2.2.2.2.2.1 x.2.2.2.2.2.2.2
 ret y := [.raw true [(.d T4 y.1),(.d T4 y.2.1),(.d T4 y.2.2.1),(.d T4 y.2.2.2)]]
 hout y := []
 nout := 0
theorem C120_vc (a_0:Int) (a_1:Int) (a_2:Int) (a_3:Int) (b_0:Int) (b_1:Int) (b_2:Int) (b_3:Int) (y : Int×Int×Int×Int) (q : f120 a_0 a_1 a_2 a_3 b_0 b_1 b_2 b_3 = some y) : VC Tryz.f120 C120 (a_0,a_1,a_2,a_3,b_0,b_1,b_2,b_3) y := by
 unfold f120 at q
 refine OL (OL (OL (OL (OL ?_))))
 obtain ⟨z3,hz3,q⟩ := bE q
 refine lI (Int×Int×Int×Int×Int×Int) (Int×Int×Int×Int) (fun x=>⟨[(2,P0 0 0),(3,P0 1 0),(4,P0 2 0),(5,P0 3 0),(6,.dat T4 x.1),(7,.dat T2 x.2.1)],[(0,.cells [(.d T4 a_0),(.d T4 a_1),(.d T4 a_2),(.d T4 a_3)]),(1,.cells [(.d T4 b_0),(.d T4 b_1),(.d T4 b_2),(.d T4 b_3)]),(2,.cells [(.d T4 (0:Int)),(.d T4 (0:Int)),(.d T4 (0:Int)),(.d T4 (0:Int))]),(3,.cells [(.d T4 x.2.2.1),(.d T4 x.2.2.2.1),(.d T4 x.2.2.2.2.1),(.d T4 x.2.2.2.2.2)])],4⟩) (fun z=>[(2,⟨[(4,P0 0 0),(5,P0 1 0)],[(0,.cells [(.d T4 (0:Int)),(.d T4 (0:Int)),(.d T4 (0:Int)),(.d T4 (0:Int))]),(1,.cells [(.d T4 z.1),(.d T4 z.2.1),(.d T4 z.2.2.1),(.d T4 z.2.2.2)])],2⟩)]) (loopF (fun go x=>f120_l1 a_0 a_1 a_2 a_3 b_0 b_1 b_2 b_3 go x.1 x.2.1 x.2.2.1 x.2.2.2.1 x.2.2.2.2.1 x.2.2.2.2.2)) fuelN ((0:Int),(0:Int),(0:Int),(0:Int),(0:Int),(0:Int)) z3 (AI hz3 (AI (E4 I4 (R3 (AI (R4 TV) (R4 TV)))) (AI (fun _ _ h=>lZ h) (AI (fun m=>curI (fun borrow=>curI (fun i=>curI (fun c3_0=>curI (fun c3_1=>curI (fun c3_2=>fun c3_3 z q=>?_)))))) ?_))))
 ·have q : f120_l1 a_0 a_1 a_2 a_3 b_0 b_1 b_2 b_3 (loopF (fun go x=>f120_l1 a_0 a_1 a_2 a_3 b_0 b_1 b_2 b_3 go x.1 x.2.1 x.2.2.1 x.2.2.2.1 x.2.2.2.2.1 x.2.2.2.2.2) m) borrow i c3_0 c3_1 c3_2 c3_3 = some z := q
  unfold f120_l1 at q
  refine OL (OL (cI q (fun q=>?_) (fun q=>?_)))
  ·refine OL (OL (EI (.take 0 (.take 1 (.take 2 (.take 3 (.take 4 (.take 5 (.take 6 (.take 7 .done)))))))) (EI [] (EI [] (AI rfl (gI q (fun q=>?_)))))))
   refine AI (fun hk4=>?_) ?_
   ·have q := pickE q hk4
    dsimp only [nthO] at q
    refine AI (rE hk4 (by decide)) (AI (fun _=>?_) (AI (fun h=>absurd (hk4.symm.trans h) (by decide)) (AI (fun h=>absurd (hk4.symm.trans h) (by decide)) (AI (fun h=>absurd (hk4.symm.trans h) (by decide)) TV))))
    refine OL (OL (AI (rE hk4 (by decide)) (AI (fun _=>?_) (AI (fun h=>absurd (hk4.symm.trans h) (by decide)) (AI (fun h=>absurd (hk4.symm.trans h) (by decide)) (AI (fun h=>absurd (hk4.symm.trans h) (by decide)) TV))))))
    refine OL (OL (EI (.take 0 (.take 1 (.take 2 (.take 3 (.take 4 (.take 5 (.take 6 (.take 7 (.take 8 (.take 9 (.take 10 (.take 11 .done)))))))))))) (EI [] (EI [] (AI rfl (AI (rE hk4 (by decide)) (AI (fun _=>?_) (AI (fun h=>absurd (hk4.symm.trans h) (by decide)) (AI (fun h=>absurd (hk4.symm.trans h) (by decide)) (AI (fun h=>absurd (hk4.symm.trans h) (by decide)) TV))))))))))
    refine AI (rE hk4 (by decide)) (AI (fun _=>?_) (AI (fun h=>absurd (hk4.symm.trans h) (by decide)) (AI (fun h=>absurd (hk4.symm.trans h) (by decide)) (AI (fun h=>absurd (hk4.symm.trans h) (by decide)) TV))))
    refine cN q (fun q=>?_) (fun q=>?_)
    ·refine gY (gY (cF (cI q (fun q=>?_) (fun q=>?_))))
     ·refine EI ((1:Int),(i64.wrap (i + (1:Int))),(u64.wrap ((u64.wrap (a_0 - b_0)) - borrow)),c3_1,c3_2,c3_3) (AI q (E4 I4 (R3 (AI (R4 TV) (R4 TV)))))
     refine EI ((0:Int),(i64.wrap (i + (1:Int))),(u64.wrap ((u64.wrap (a_0 - b_0)) - borrow)),c3_1,c3_2,c3_3) (AI q (E4 I4 (R3 (AI (R4 TV) (R4 TV)))))
    refine gN (gN (cT (cT (EI ((1:Int),(i64.wrap (i + (1:Int))),(u64.wrap ((u64.wrap (a_0 - b_0)) - borrow)),c3_1,c3_2,c3_3) (AI q (E4 I4 (R3 (AI (R4 TV) (R4 TV)))))))))
   refine AI (fun hk4=>?_) ?_
   ·have q := pickE q hk4
    dsimp only [nthO] at q
    refine AI (rE hk4 (by decide)) (AI (fun h=>absurd (hk4.symm.trans h) (by decide)) ?_)
    refine AI (fun _=>?_) (AI (fun h=>absurd (hk4.symm.trans h) (by decide)) (AI (fun h=>absurd (hk4.symm.trans h) (by decide)) TV))
    refine OL (OL (AI (rE hk4 (by decide)) (AI (fun h=>absurd (hk4.symm.trans h) (by decide)) ?_)))
    refine AI (fun _=>?_) (AI (fun h=>absurd (hk4.symm.trans h) (by decide)) (AI (fun h=>absurd (hk4.symm.trans h) (by decide)) TV))
    refine OL (OL (EI (.take 0 (.take 1 (.take 2 (.take 3 (.take 4 (.take 5 (.take 6 (.take 7 (.take 8 (.take 9 (.take 10 (.take 11 .done)))))))))))) (EI [] (EI [] (AI rfl (AI (rE hk4 (by decide)) (AI (fun h=>absurd (hk4.symm.trans h) (by decide)) ?_)))))))
    refine AI (fun _=>?_) (AI (fun h=>absurd (hk4.symm.trans h) (by decide)) (AI (fun h=>absurd (hk4.symm.trans h) (by decide)) TV))
    refine AI (rE hk4 (by decide)) (AI (fun h=>absurd (hk4.symm.trans h) (by decide)) ?_)
    refine AI (fun _=>?_) (AI (fun h=>absurd (hk4.symm.trans h) (by decide)) (AI (fun h=>absurd (hk4.symm.trans h) (by decide)) TV))
    refine cN q (fun q=>?_) (fun q=>?_)
    ·refine gY (gY (cF (cI q (fun q=>?_) (fun q=>?_))))
     ·refine EI ((1:Int),(i64.wrap (i + (1:Int))),c3_0,(u64.wrap ((u64.wrap (a_1 - b_1)) - borrow)),c3_2,c3_3) (AI q (E4 I4 (R3 (AI (R4 TV) (R4 TV)))))
     refine EI ((0:Int),(i64.wrap (i + (1:Int))),c3_0,(u64.wrap ((u64.wrap (a_1 - b_1)) - borrow)),c3_2,c3_3) (AI q (E4 I4 (R3 (AI (R4 TV) (R4 TV)))))
    refine gN (gN (cT (cT (EI ((1:Int),(i64.wrap (i + (1:Int))),c3_0,(u64.wrap ((u64.wrap (a_1 - b_1)) - borrow)),c3_2,c3_3) (AI q (E4 I4 (R3 (AI (R4 TV) (R4 TV)))))))))
   refine AI (fun hk4=>?_) ?_
   ·have q := pickE q hk4
    dsimp only [nthO] at q
    refine AI (rE hk4 (by decide)) (AI (fun h=>absurd (hk4.symm.trans h) (by decide)) ?_)
    refine AI (fun h=>absurd (hk4.symm.trans h) (by decide)) ?_
    refine AI (fun _=>?_) (AI (fun h=>absurd (hk4.symm.trans h) (by decide)) TV)
    refine OL (OL (AI (rE hk4 (by decide)) (AI (fun h=>absurd (hk4.symm.trans h) (by decide)) ?_)))
    refine AI (fun h=>absurd (hk4.symm.trans h) (by decide)) ?_
    refine AI (fun _=>?_) (AI (fun h=>absurd (hk4.symm.trans h) (by decide)) TV)
    refine OL (OL (EI (.take 0 (.take 1 (.take 2 (.take 3 (.take 4 (.take 5 (.take 6 (.take 7 (.take 8 (.take 9 (.take 10 (.take 11 .done)))))))))))) (EI [] (EI [] (AI rfl (AI (rE hk4 (by decide)) (AI (fun h=>absurd (hk4.symm.trans h) (by decide)) ?_)))))))
    refine AI (fun h=>absurd (hk4.symm.trans h) (by decide)) ?_
    refine AI (fun _=>?_) (AI (fun h=>absurd (hk4.symm.trans h) (by decide)) TV)
    refine AI (rE hk4 (by decide)) (AI (fun h=>absurd (hk4.symm.trans h) (by decide)) ?_)
    refine AI (fun h=>absurd (hk4.symm.trans h) (by decide)) ?_
    refine AI (fun _=>?_) (AI (fun h=>absurd (hk4.symm.trans h) (by decide)) TV)
    refine cN q (fun q=>?_) (fun q=>?_)
    ·refine gY (gY (cF (cI q (fun q=>?_) (fun q=>?_))))
     ·refine EI ((1:Int),(i64.wrap (i + (1:Int))),c3_0,c3_1,(u64.wrap ((u64.wrap (a_2 - b_2)) - borrow)),c3_3) (AI q (E4 I4 (R3 (AI (R4 TV) (R4 TV)))))
     refine EI ((0:Int),(i64.wrap (i + (1:Int))),c3_0,c3_1,(u64.wrap ((u64.wrap (a_2 - b_2)) - borrow)),c3_3) (AI q (E4 I4 (R3 (AI (R4 TV) (R4 TV)))))
    refine gN (gN (cT (cT (EI ((1:Int),(i64.wrap (i + (1:Int))),c3_0,c3_1,(u64.wrap ((u64.wrap (a_2 - b_2)) - borrow)),c3_3) (AI q (E4 I4 (R3 (AI (R4 TV) (R4 TV)))))))))
   refine AI (fun hk4=>?_) TV
   have q := pickE q hk4
   dsimp only [nthO] at q
   refine AI (rE hk4 (by decide)) (AI (fun h=>absurd (hk4.symm.trans h) (by decide)) ?_)
   refine AI (fun h=>absurd (hk4.symm.trans h) (by decide)) ?_
   refine AI (fun h=>absurd (hk4.symm.trans h) (by decide)) ?_
   refine AI (fun _=>?_) TV
   refine OL (OL (AI (rE hk4 (by decide)) (AI (fun h=>absurd (hk4.symm.trans h) (by decide)) ?_)))
   refine AI (fun h=>absurd (hk4.symm.trans h) (by decide)) ?_
   refine AI (fun h=>absurd (hk4.symm.trans h) (by decide)) ?_
   refine AI (fun _=>?_) TV
   refine OL (OL (EI (.take 0 (.take 1 (.take 2 (.take 3 (.take 4 (.take 5 (.take 6 (.take 7 (.take 8 (.take 9 (.take 10 (.take 11 .done)))))))))))) (EI [] (EI [] (AI rfl (AI (rE hk4 (by decide)) (AI (fun h=>absurd (hk4.symm.trans h) (by decide)) ?_)))))))
   refine AI (fun h=>absurd (hk4.symm.trans h) (by decide)) ?_
   refine AI (fun h=>absurd (hk4.symm.trans h) (by decide)) ?_
   refine AI (fun _=>?_) TV
   refine AI (rE hk4 (by decide)) (AI (fun h=>absurd (hk4.symm.trans h) (by decide)) ?_)
   refine AI (fun h=>absurd (hk4.symm.trans h) (by decide)) ?_
   refine AI (fun h=>absurd (hk4.symm.trans h) (by decide)) ?_
   refine AI (fun _=>?_) TV
   refine cN q (fun q=>?_) (fun q=>?_)
   ·refine gY (gY (cF (cI q (fun q=>?_) (fun q=>?_))))
    ·refine EI ((1:Int),(i64.wrap (i + (1:Int))),c3_0,c3_1,c3_2,(u64.wrap ((u64.wrap (a_3 - b_3)) - borrow))) (AI q (E4 I4 (R3 (AI (R4 TV) (R4 TV)))))
    refine EI ((0:Int),(i64.wrap (i + (1:Int))),c3_0,c3_1,c3_2,(u64.wrap ((u64.wrap (a_3 - b_3)) - borrow))) (AI q (E4 I4 (R3 (AI (R4 TV) (R4 TV)))))
   refine gN (gN (cT (cT (EI ((1:Int),(i64.wrap (i + (1:Int))),c3_0,c3_1,c3_2,(u64.wrap ((u64.wrap (a_3 - b_3)) - borrow))) (AI q (E4 I4 (R3 (AI (R4 TV) (R4 TV)))))))))
  cases sE q
  refine E4 [(0,some 2),(1,some 3)] (AI rfl (AI (R2 TV) (R2 TV)))
 refine AI (OL (OL ?_)) TV
 cases sE q
 refine AI rfl (E4 [] (AI rfl (AJ TV)))
theorem C120_holds : HP C120 120 := hH Tryz.f120 (by kernel_rfl) rfl (fun x y q=>C120_vc x.1 x.2.1 x.2.2.1 x.2.2.2.1 x.2.2.2.2.1 x.2.2.2.2.2.1 x.2.2.2.2.2.2.1 x.2.2.2.2.2.2.2 y q)
theorem f120_in : InP 120 := inP (by kernel_rfl)
def f68 (a_Neg : Bool) (a_M_0:Int) (a_M_1:Int) (a_M_2:Int) (a_M_3:Int) (b_Neg : Bool) (b_M_0:Int) (b_M_1:Int) (b_M_2:Int) (b_M_3:Int) : Option (Bool×Int×Int×Int×Int) :=
 bif (a_Neg == b_Neg) then
 bindF (f117 a_M_0 a_M_1 a_M_2 a_M_3 b_M_0 b_M_1 b_M_2 b_M_3) fun q2_6 =>
 some (a_Neg,q2_6.1,q2_6.2.1,q2_6.2.2.1,q2_6.2.2.2)
 else
 bindF (f119 a_M_0 a_M_1 a_M_2 a_M_3 b_M_0 b_M_1 b_M_2 b_M_3) fun q2_8 =>
 bif q2_8 then
 bindF (f120 b_M_0 b_M_1 b_M_2 b_M_3 a_M_0 a_M_1 a_M_2 a_M_3) fun q4_6 =>
 some (b_Neg,q4_6.1,q4_6.2.1,q4_6.2.2.1,q4_6.2.2.2)
 else
 bindF (f120 a_M_0 a_M_1 a_M_2 a_M_3 b_M_0 b_M_1 b_M_2 b_M_3) fun q5_6 =>
 some (a_Neg,q5_6.1,q5_6.2.1,q5_6.2.2.1,q5_6.2.2.2)
def C68 : Con where
 X := Bool×Int×Int×Int×Int×Bool×Int×Int×Int×Int
 Y := Bool×Int×Int×Int×Int
 e := 0
 args x := [.raw true [(.d .bool x.1),(.d T4 x.2.1),(.d T4 x.2.2.1),(.d T4 x.2.2.2.1),(.d T4 x.2.2.2.2.1)],.raw true [(.d .bool x.2.2.2.2.2.1),(.d T4 x.2.2.2.2.2.2.1),(.d T4 x.2.2.2.2.2.2.2.1),(.d T4 x.2.2.2.2.2.2.2.2.1),(.d T4 x.2.2.2.2.2.2.2.2.2)]]
 hin x := []
 F x := f68 x.1 x.2.1 x.2.2.1 x.2.2.2.1 x.2.2.2.2.1 x.2.2.2.2.2.1 x.2.2.2.2.2.2.1 x.2.2.2.2.2.2.2.1 x.2.2.2.2.2.2.2.2.1 x.2.2.2.2.2.2.2.2.2
 ret y := [.raw true [(.d .bool y.1),(.d T4 y.2.1),(.d T4 y.2.2.1),(.d T4 y.2.2.2.1),(.d T4 y.2.2.2.2)]]
 hout y := []
 nout := 0
theorem C68_vc (a_Neg : Bool) (a_M_0:Int) (a_M_1:Int) (a_M_2:Int) (a_M_3:Int) (b_Neg : Bool) (b_M_0:Int) (b_M_1:Int) (b_M_2:Int) (b_M_3:Int) (y : Bool×Int×Int×Int×Int) (q : f68 a_Neg a_M_0 a_M_1 a_M_2 a_M_3 b_Neg b_M_0 b_M_1 b_M_2 b_M_3 = some y) : VC Tryz.f68 C68 (a_Neg,a_M_0,a_M_1,a_M_2,a_M_3,b_Neg,b_M_0,b_M_1,b_M_2,b_M_3) y := by
 unfold f68 at q
 refine OL (OL (OL (cI q (fun q=>?_) (fun q=>?_))))
 ·refine OL (EI (.take 0 (.take 1 (.take 2 (.take 3 (.take 4 (.take 5 (.alt 6 (.take 7 (.alt 8 .done .done)) .done))))))) (EI [] (EI [] (AI rfl (AI TV ?_)))))
  obtain ⟨q2_6,hq2_6,q⟩ := bE q
  refine OL (AI f117_in (cV (cQ C117 (a_M_0,a_M_1,a_M_2,a_M_3,b_M_0,b_M_1,b_M_2,b_M_3) q2_6 [] false C117_holds hq2_6 rfl rfl (AI NH (R2 (AI (R2 TV) (AI TV (AI TV (OL ?_)))))))))
  cases sE q
  refine AI rfl (E4 [] (AI rfl (AJ TV)))
 refine OL (OL ?_)
 obtain ⟨q2_8,hq2_8,q⟩ := bE q
 refine OL (AI f119_in (cV (cQ C119 (a_M_0,a_M_1,a_M_2,a_M_3,b_M_0,b_M_1,b_M_2,b_M_3) q2_8 [] false C119_holds hq2_8 rfl rfl (AI NH (R2 (AI (R2 TV) (AI TV (cI q (fun q=>?_) (fun q=>?_)))))))))
 ·refine OL (EI (.take 0 (.take 1 (.take 2 (.take 3 (.take 4 (.take 5 (.alt 6 (.take 7 (.alt 8 .done .done)) .done))))))) (EI [] (EI [] (AI rfl (AI TV ?_)))))
  obtain ⟨q4_6,hq4_6,q⟩ := bE q
  refine OL (AI f120_in (cV (cQ C120 (b_M_0,b_M_1,b_M_2,b_M_3,a_M_0,a_M_1,a_M_2,a_M_3) q4_6 [] false C120_holds hq4_6 rfl rfl (AI NH (R2 (AI (R2 TV) (AI TV (AI TV (OL ?_)))))))))
  cases sE q
  refine AI rfl (E4 [] (AI rfl (AJ TV)))
 refine OL (EI (.take 0 (.take 1 (.take 2 (.take 3 (.take 4 (.take 5 (.alt 6 (.take 7 (.alt 8 .done .done)) .done))))))) (EI [] (EI [] (AI rfl (AI TV ?_)))))
 obtain ⟨q5_6,hq5_6,q⟩ := bE q
 refine OL (AI f120_in (cV (cQ C120 (a_M_0,a_M_1,a_M_2,a_M_3,b_M_0,b_M_1,b_M_2,b_M_3) q5_6 [] false C120_holds hq5_6 rfl rfl (AI NH (R2 (AI (R2 TV) (AI TV (AI TV (OL ?_)))))))))
 cases sE q
 refine AI rfl (E4 [] (AI rfl (AJ TV)))
theorem C68_holds : HP C68 68 := hH Tryz.f68 (by kernel_rfl) rfl (fun x y q=>C68_vc x.1 x.2.1 x.2.2.1 x.2.2.2.1 x.2.2.2.2.1 x.2.2.2.2.2.1 x.2.2.2.2.2.2.1 x.2.2.2.2.2.2.2.1 x.2.2.2.2.2.2.2.2.1 x.2.2.2.2.2.2.2.2.2 y q)
theorem f68_in : InP 68 := inP (by kernel_rfl)
def f60_j3 (a_M_0:Int) (a_M_1:Int) (a_M_2:Int) (a_M_3:Int) : Option Bool :=
 bif ((bitsOf IntKind.u64 (fun p q=>p ||| q) (bitsOf IntKind.u64 (fun p q=>p ||| q) a_M_1 a_M_2) a_M_3) != (0:Int)) then
 some true
 else
 some (decide (a_M_0 ≥ (9223372036854775808:Int)))
def f60_j2 (a_Neg : Bool) (a_M_0:Int) (a_M_1:Int) (a_M_2:Int) (a_M_3:Int) : Option (Sum Unit Int) :=
 bindF (f60_j3 a_M_0 a_M_1 a_M_2 a_M_3) fun z3 =>
 bif z3 then
 bif a_Neg then
 some (Sum.inr (-9223372036854775808:Int))
 else
 some (Sum.inr (9223372036854775807:Int))
 else
 some (Sum.inl ())
def f60 (a_Neg : Bool) (a_M_0:Int) (a_M_1:Int) (a_M_2:Int) (a_M_3:Int) : Option Int :=
 bindF (f60_j2 a_Neg a_M_0 a_M_1 a_M_2 a_M_3) fun z2 =>
 sumF z2 (fun z2a =>
 bif a_Neg then
 some (i64.wrap (0 - (i64.wrap a_M_0)))
 else
 some (i64.wrap a_M_0)) (fun z2b =>
 some z2b)
def C60 : Con where
 X := Bool×Int×Int×Int×Int
 Y := Int
 e := 0
 args x := [.raw true [(.d .bool x.1),(.d T4 x.2.1),(.d T4 x.2.2.1),(.d T4 x.2.2.2.1),(.d T4 x.2.2.2.2)]]
 hin x := []
 F x := f60 x.1 x.2.1 x.2.2.1 x.2.2.2.1 x.2.2.2.2
 ret y := [.dat T2 y]
 hout y := []
 nout := 0
theorem C60_vc (a_Neg : Bool) (a_M_0:Int) (a_M_1:Int) (a_M_2:Int) (a_M_3:Int) (y:Int) (q : f60 a_Neg a_M_0 a_M_1 a_M_2 a_M_3 = some y) : VC Tryz.f60 C60 (a_Neg,a_M_0,a_M_1,a_M_2,a_M_3) y := by
 unfold f60 at q
 refine OL ?_
 obtain ⟨z2,hz2,q⟩ := bE q
 refine OQ ⟨Sum.elim (fun z2a=>[(0,⟨[(1,P0 0 0)],[(0,.cells [(.d .bool a_Neg),(.d T4 a_M_0),(.d T4 a_M_1),(.d T4 a_M_2),(.d T4 a_M_3)])],1⟩)]) (fun z2b=>[(1,⟨[(2,.dat T2 z2b)],[],0⟩)]) z2,?_,?_⟩
 ·have q := hz2
  clear hz2
  unfold f60_j2 at q
  obtain ⟨z3,hz3,q⟩ := bE q
  refine OQ ⟨[(0,⟨[(1,P0 0 0),(20,.dat .bool z3)],[(0,.cells [(.d .bool a_Neg),(.d T4 a_M_0),(.d T4 a_M_1),(.d T4 a_M_2),(.d T4 a_M_3)])],1⟩)],?_,?_⟩
  ·have q := hz3
   clear hz3
   unfold f60_j3 at q
   refine AI (by decide) (AI (fun h=>absurd h (by decide)) ?_)
   refine AI (fun _=>?_) (AI (fun h=>absurd h (by decide)) (AI (fun h=>absurd h (by decide)) TV))
   refine AI (by decide) (AI (fun h=>absurd h (by decide)) ?_)
   refine AI (fun h=>absurd h (by decide)) ?_
   refine AI (fun _=>?_) (AI (fun h=>absurd h (by decide)) TV)
   refine AI (by decide) (AI (fun h=>absurd h (by decide)) ?_)
   refine AI (fun h=>absurd h (by decide)) ?_
   refine AI (fun h=>absurd h (by decide)) ?_
   refine AI (fun _=>?_) TV
   refine cN q (fun q=>?_) (fun q=>?_)
   ·refine gY (AI (by decide) (AI (fun _=>?_) (AI (fun h=>absurd h (by decide)) (AI (fun h=>absurd h (by decide)) (AI (fun h=>absurd h (by decide)) TV)))))
    refine gY (gY (cF ?_))
    cases sE q
    refine E4 [(0,some 0)] (R2 (AJ (AI rfl TV)))
   refine gN (gN (gN (cT ?_)))
   cases sE q
   refine E4 [(0,some 0)] (R2 (AJ (AI rfl TV)))
  refine AI (cI q (fun q=>?_) (fun q=>?_)) TV
  ·refine OL (OL (cI q (fun q=>?_) (fun q=>?_)))
   ·cases sE q
    refine OL (E4 [] (R2 (AI TV TV)))
   cases sE q
   refine OL (E4 [] (R2 (AI TV TV)))
  cases sE q
  refine E4 [(0,some 0)] (AI rfl (AJ (AI rfl TV)))
 rcases z2 with z2a | z2b
 ·dsimp only [sumF] at q
  refine AI (OL (OL (cI q (fun q=>?_) (fun q=>?_)))) TV
  ·refine OL (AI (by decide) (AI (fun _=>?_) (AI (fun h=>absurd h (by decide)) (AI (fun h=>absurd h (by decide)) (AI (fun h=>absurd h (by decide)) TV)))))
   cases sE q
   refine AI rfl (E4 [] (R2 (AI TV TV)))
  refine OL (AI (by decide) (AI (fun _=>?_) (AI (fun h=>absurd h (by decide)) (AI (fun h=>absurd h (by decide)) (AI (fun h=>absurd h (by decide)) TV)))))
  cases sE q
  refine AI rfl (E4 [] (R2 (AI TV TV)))
 dsimp only [sumF] at q
 refine AI ?_ TV
 cases sE q
 refine AI rfl (E4 [] (R2 (AI TV TV)))
theorem C60_holds : HP C60 60 := hH Tryz.f60 (by kernel_rfl) rfl (fun x y q=>C60_vc x.1 x.2.1 x.2.2.1 x.2.2.2.1 x.2.2.2.2 y q)
theorem f60_in : InP 60 := inP (by kernel_rfl)
def f25 (a:Int) (b:Int) : Option Int :=
 bindF (f62 a) fun r1 =>
 bindF (f62 b) fun r2 =>
 bindF (f68 r1.1 r1.2 (0:Int) (0:Int) (0:Int) r2.1 r2.2 (0:Int) (0:Int) (0:Int)) fun r3 =>
 bindF (f60 r3.1 r3.2.1 r3.2.2.1 r3.2.2.2.1 r3.2.2.2.2) fun r4 =>
 some r4
def C25 : Con where
 X := Int×Int
 Y := Int
 e := 0
 args x := [.dat T2 x.1,.dat T2 x.2]
 hin x := []
 F x := f25 x.1 x.2
 ret y := [.dat T2 y]
 hout y := []
 nout := 0
theorem C25_vc (a:Int) (b:Int) (y:Int) (q : f25 a b = some y) : VC Tryz.f25 C25 (a,b) y := by
 unfold f25 at q
 refine OL (OL ?_)
 obtain ⟨r1,hr1,q⟩ := bE q
 refine OL (AI f62_in (cV (cQ C62 a r1 [] false C62_holds hr1 rfl rfl (AI rfl (K0 ?_)))))
 obtain ⟨r2,hr2,q⟩ := bE q
 refine OL (AI f62_in (cV (cQ C62 b r2 [] false C62_holds hr2 rfl rfl (AI rfl (K0 ?_)))))
 obtain ⟨r3,hr3,q⟩ := bE q
 refine OL (AI f68_in (cV (cQ C68 (r1.1,r1.2,(0:Int),(0:Int),(0:Int),r2.1,r2.2,(0:Int),(0:Int),(0:Int)) r3 [] false C68_holds hr3 rfl rfl (AI NH (R2 (AI (R2 TV) (AI TV ?_)))))))
 obtain ⟨r4,hr4,q⟩ := bE q
 refine OL (AI f60_in (cV (cQ C60 (r3.1,r3.2.1,r3.2.2.1,r3.2.2.2.1,r3.2.2.2.2) r4 [] false C60_holds hr4 rfl rfl (AI NH (R2 (AJ (AI TV ?_)))))))
 cases sE q
 refine AI rfl (E4 [] (R2 (AI TV TV)))
theorem C25_holds : HP C25 25 := hH Tryz.f25 (by kernel_rfl) rfl (fun x y q=>C25_vc x.1 x.2 y q)
theorem f25_in : InP 25 := inP (by kernel_rfl)
def f7 (x_:Int) (k:Int) (m_:Int) : Option Bool :=
 bindF (f12) fun q10_28 =>
 bif (!q10_28) then
 some false
 else
 bindF (f13) fun r1 =>
 bindF (f15 ([x_])) fun r2 =>
 bindF (f14 ([]) (r2.2,r2.1)) fun r3 =>
 bindF (f15 ([(9:Int)])) fun r4 =>
 bindF (f14 r3.2.2 (r4.2,r4.1)) fun r5 =>
 bindF (f17 r5.2.2 (5:Int) r3.1 (-1:Int) k) fun r6 =>
 bindF (f17 r6.2.2 (5:Int) r3.1 (-1:Int) m_) fun r7 =>
 bindF (f17 r7.2.2 (2:Int) r6.1 r7.1 (0:Int)) fun r8 =>
 bindF (f16 r8.2.2 r8.1) fun r9 =>
 bif (r9.1 == (0:Int)) then
 bif ((List.length r9.2.1:Int) == (5:Int)) then
 guardF (0 ≤ r3.1 ∧ r3.1 < (List.length r9.2.1:Int)) <|
 bindF (f25 m_ k) fun q10_14 =>
 bindF (f15 ([q10_14])) fun q10_16 =>
 bindF (f19 ((rd (Ty.z T3) r9.2.1 r3.1).1,(rd (Ty.z T3) r9.2.1 r3.1).2) (q10_16.2,q10_16.1)) fun q10_17 =>
 bif q10_17 then
 guardF (0 ≤ r5.1 ∧ r5.1 < (List.length r9.2.1:Int)) <|
 bindF (f15 ([(0:Int)])) fun q10_25 =>
 bindF (f19 ((rd (Ty.z T3) r9.2.1 r5.1).1,(rd (Ty.z T3) r9.2.1 r5.1).2) (q10_25.2,q10_25.1)) fun q10_26 =>
 some q10_26
 else
 some false
 else
 some false
 else
 some false
def C7 : Con where
 X := Int×Int×Int
 Y := Bool
 e := 0
 args x := [.dat T2 x.1,.dat T2 x.2.1,.dat T2 x.2.2]
 hin x := []
 F x := f7 x.1 x.2.1 x.2.2
 ret y := [.dat .bool y]
 hout y := []
 nout := 0
theorem C7_vc (x_:Int) (k:Int) (m_:Int) (y : Bool) (q : f7 x_ k m_ = some y) : VC Tryz.f7 C7 (x_,k,m_) y := by
 unfold f7 at q
 refine OL (OL (OL ?_))
 obtain ⟨q10_28,hq10_28,q⟩ := bE q
 refine OL (AI f12_in (cV (cQ C12 () q10_28 [] false C12_holds hq10_28 rfl rfl (K0 (cI q (fun q=>?_) (fun q=>?_))))))
 ·cases sE q
  refine OL (AI rfl (E4 [] (R2 (AI TV TV))))
 refine OL ?_
 obtain ⟨r1,hr1,q⟩ := bE q
 refine OL (AI f13_in (cV (cQ C13 () r1 [] false C13_holds hr1 rfl rfl (K0 (OL (OL ?_))))))
 obtain ⟨r2,hr2,q⟩ := bE q
 refine OL (AI f15_in (cV (cQ C15 [x_] r2 [] false C15_holds hr2 rfl rfl (AI rfl (K0 ?_)))))
 obtain ⟨r3,hr3,q⟩ := bE q
 refine OL (AI f14_in (cV (cQ C14 ([],(r2.2,r2.1)) r3 I2 false C14_holds hr3 rfl rfl (R2 (AI NH (R2 (AJ (AI (R2 TV) (OL (OL ?_))))))))))
 obtain ⟨r4,hr4,q⟩ := bE q
 refine OL (AI f15_in (cV (cQ C15 [(9:Int)] r4 [] false C15_holds hr4 rfl rfl (AI rfl (K0 ?_)))))
 obtain ⟨r5,hr5,q⟩ := bE q
 refine OL (AI f14_in (cV (cQ C14 (r3.2.2,(r4.2,r4.1)) r5 [(0,some 0),(1,some 6)] false C14_holds hr5 rfl rfl (R2 (AI NH (R2 (AJ (AI (R2 TV) (OL ?_)))))))))
 obtain ⟨r6,hr6,q⟩ := bE q
 have hr6 : C17.F (r5.2.2,(5:Int),r3.1,(-1:Int),k) = some r6 := hr6
 refine OL (AI f17_in (cV (cQ C17 _ r6 [(0,some 0),(1,some 11)] false C17_holds hr6 rfl rfl (R4 (AI NH (R2 (AJ (AI (R2 TV) (OL ?_)))))))))
 obtain ⟨r7,hr7,q⟩ := bE q
 have hr7 : C17.F (r6.2.2,(5:Int),r3.1,(-1:Int),m_) = some r7 := hr7
 refine OL (AI f17_in (cV (cQ C17 _ r7 [(0,some 0),(1,some 14)] false C17_holds hr7 rfl rfl (R4 (AI NH (R2 (AJ (AI (R2 TV) (OL ?_)))))))))
 obtain ⟨r8,hr8,q⟩ := bE q
 refine OL (AI f17_in (cV (cQ C17 (r7.2.2,(2:Int),r6.1,r7.1,(0:Int)) r8 [(0,some 0),(1,some 17)] false C17_holds hr8 rfl rfl (R4 (AI NH (R2 (AJ (AI (R2 TV) (OL ?_)))))))))
 obtain ⟨r9,hr9,q⟩ := bE q
 refine OL (AI f16_in (cV (cQ C16 (r8.2.2,r8.1) r9 [(0,some 0),(1,some 20)] false C16_holds hr9 rfl rfl (AI rfl (AI NH (R2 (AJ (AI (R2 TV) (OL (EI (.take 0 (.take 1 (.take 2 (.take 3 (.take 4 (.take 5 (.take 6 (.take 7 (.take 8 (.take 9 (.take 10 (.take 11 (.take 12 (.take 13 (.alt 14 (.alt 15 (.alt 16 (.alt 17 (.take 18 (.take 19 (.take 20 (.take 21 (.take 22 (.take 23 (.alt 24 (.alt 25 (.alt 26 (.take 27 (.take 28 .done)) .done) .done) .done))))))) .done) .done) .done) .done))))))))))))))) (EI [] (EI [] (AI rfl (cI q (fun q=>?_) (fun q=>?_)))))))))))))))
 ·refine gX (gX (cT (cI q (fun q=>?_) (fun q=>?_))))
  ·refine gX (gX (gI q (fun q=>?_)))
   refine gX (gX (gX (AI TV (gX ?_))))
   obtain ⟨q10_14,hq10_14,q⟩ := bE q
   refine OL (AI f25_in (cV (cQ C25 (m_,k) q10_14 [] false C25_holds hq10_14 rfl rfl (R2 (K0 (AI TV (gX (OL (AI TV (gX ?_))))))))))
   obtain ⟨q10_16,hq10_16,q⟩ := bE q
   refine OL (AI f15_in (cV (cQ C15 [q10_14] q10_16 [] false C15_holds hq10_16 rfl rfl (AI rfl (K0 (AI TV (gX ?_)))))))
   obtain ⟨q10_17,hq10_17,q⟩ := bE q
   refine OL (AI f19_in (cV (cQ C19 (((rd (Ty.z T3) r9.2.1 r3.1).1,(rd (Ty.z T3) r9.2.1 r3.1).2),(q10_16.2,q10_16.1)) q10_17 [] true C19_holds hq10_17 rfl rfl (R4 (AI (fun _=>rfl) (R2 (AI TV (AI TV (cT (cI q (fun q=>?_) (fun q=>?_)))))))))))
   ·refine gX (gX (gI q (fun q=>?_)))
    refine gX (AI TV (gX (OL (AI TV (gX ?_)))))
    obtain ⟨q10_25,hq10_25,q⟩ := bE q
    refine OL (AI f15_in (cV (cQ C15 [(0:Int)] q10_25 [] false C15_holds hq10_25 rfl rfl (AI rfl (K0 (AI TV (gX ?_)))))))
    obtain ⟨q10_26,hq10_26,q⟩ := bE q
    refine OL (AI f19_in (cV (cQ C19 (((rd (Ty.z T3) r9.2.1 r5.1).1,(rd (Ty.z T3) r9.2.1 r5.1).2),(q10_25.2,q10_25.1)) q10_26 [] true C19_holds hq10_26 rfl rfl (R4 (AI (fun _=>rfl) (R2 (AI TV (AI TV (cT ?_)))))))))
    cases sE q
    refine AI rfl (E4 [] (R2 (AI TV TV)))
   refine gM (gM (gM (AI TV (gM (AI TV (gM (AI TV (gM (cF ?_)))))))))
   cases sE q
   refine AI rfl (E4 [] (R2 (AI TV TV)))
  refine gM (gM (gM (gM (gM (AI TV (gM (AI TV (gM (AI TV (gM (AI TV (gM (cF (gM (gM (gM (gM (AI TV (gM (AI TV (gM (AI TV (gM (cF ?_))))))))))))))))))))))))
  cases sE q
  refine AI rfl (E4 [] (R2 (AI TV TV)))
 refine gM (gM (cF (gM (gM (gM (gM (gM (gM (AI TV (gM (AI TV (gM (AI TV (gM (AI TV (gM (cF (gM (gM (gM (gM (AI TV (gM (AI TV (gM (AI TV (gM (cF ?_))))))))))))))))))))))))))))
 cases sE q
 refine AI rfl (E4 [] (R2 (AI TV TV)))
theorem C7_holds : HP C7 7 := hH Tryz.f7 (by kernel_rfl) rfl (fun x y q=>C7_vc x.1 x.2.1 x.2.2 y q)
theorem f7_in : InP 7 := inP (by kernel_rfl)
end Go.Proofs
