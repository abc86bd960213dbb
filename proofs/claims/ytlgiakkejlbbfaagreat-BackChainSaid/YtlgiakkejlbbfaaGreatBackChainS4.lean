import Derived.Test.YtlgiakkejlbbfaaGreatBackChainS3
set_option linter.unusedVariables false
set_option maxRecDepth 100000
set_option maxHeartbeats 8000000
namespace Go.Proofs
open Go.AM
open IntKind (i64 u64 i32 u32 i16 u16 i8 u8)
def f115 (n:Int) : Option Int :=
 bif (decide (n < (0:Int))) then
 some (u64.wrap ((u64.wrap (i64.wrap (0 - (i64.wrap (n + (1:Int)))))) + (1:Int)))
 else
 some (u64.wrap n)
def C115 : Con where
 X := Int
 Y := Int
 e := 0
 args x := [.dat T2 x]
 hin x := []
 F x := f115 x
 ret y := [.dat T4 y]
 hout y := []
 nout := 0
theorem C115_vc (n:Int) (y:Int) (q : f115 n = some y) : VC Tryz.f115 C115 n y := by
 unfold f115 at q
 refine OL (OL (OL (cI q (fun q=>?_) (fun q=>?_))))
 ·cases sE q
  refine OL (AI rfl (E4 [] (R2 (AI TV TV))))
 cases sE q
 refine OL (AI rfl (E4 [] (R2 (AI TV TV))))
theorem C115_holds : HP C115 115 := hH Tryz.f115 (by kernel_rfl) rfl (fun x y q=>C115_vc x y q)
theorem f115_in : InP 115 := inP (by kernel_rfl)
def f117_l1 (a_0:Int) (a_1:Int) (a_2:Int) (a_3:Int) (b_0:Int) (b_1:Int) (b_2:Int) (b_3:Int) (go : (Int×Int×Int×Int×Int×Int) → Option (Int×Int×Int×Int)) (carry:Int) (i:Int) (c3_0:Int) (c3_1:Int) (c3_2:Int) (c3_3:Int) : Option (Int×Int×Int×Int) :=
 bif (decide (i < (4:Int))) then
 guardF (0 ≤ i ∧ i < (4:Int)) <|
 pickF i
 [(bif (decide ((u64.wrap (a_0 + b_0)) < a_0)) then
 go ((1:Int),(i64.wrap (i + (1:Int))),(u64.wrap ((u64.wrap (a_0 + b_0)) + carry)),c3_1,c3_2,c3_3)
 else
 bif (decide ((u64.wrap ((u64.wrap (a_0 + b_0)) + carry)) < (u64.wrap (a_0 + b_0)))) then
 go ((1:Int),(i64.wrap (i + (1:Int))),(u64.wrap ((u64.wrap (a_0 + b_0)) + carry)),c3_1,c3_2,c3_3)
 else
 go ((0:Int),(i64.wrap (i + (1:Int))),(u64.wrap ((u64.wrap (a_0 + b_0)) + carry)),c3_1,c3_2,c3_3)),
 (bif (decide ((u64.wrap (a_1 + b_1)) < a_1)) then
 go ((1:Int),(i64.wrap (i + (1:Int))),c3_0,(u64.wrap ((u64.wrap (a_1 + b_1)) + carry)),c3_2,c3_3)
 else
 bif (decide ((u64.wrap ((u64.wrap (a_1 + b_1)) + carry)) < (u64.wrap (a_1 + b_1)))) then
 go ((1:Int),(i64.wrap (i + (1:Int))),c3_0,(u64.wrap ((u64.wrap (a_1 + b_1)) + carry)),c3_2,c3_3)
 else
 go ((0:Int),(i64.wrap (i + (1:Int))),c3_0,(u64.wrap ((u64.wrap (a_1 + b_1)) + carry)),c3_2,c3_3)),
 (bif (decide ((u64.wrap (a_2 + b_2)) < a_2)) then
 go ((1:Int),(i64.wrap (i + (1:Int))),c3_0,c3_1,(u64.wrap ((u64.wrap (a_2 + b_2)) + carry)),c3_3)
 else
 bif (decide ((u64.wrap ((u64.wrap (a_2 + b_2)) + carry)) < (u64.wrap (a_2 + b_2)))) then
 go ((1:Int),(i64.wrap (i + (1:Int))),c3_0,c3_1,(u64.wrap ((u64.wrap (a_2 + b_2)) + carry)),c3_3)
 else
 go ((0:Int),(i64.wrap (i + (1:Int))),c3_0,c3_1,(u64.wrap ((u64.wrap (a_2 + b_2)) + carry)),c3_3)),
 (bif (decide ((u64.wrap (a_3 + b_3)) < a_3)) then
 go ((1:Int),(i64.wrap (i + (1:Int))),c3_0,c3_1,c3_2,(u64.wrap ((u64.wrap (a_3 + b_3)) + carry)))
 else
 bif (decide ((u64.wrap ((u64.wrap (a_3 + b_3)) + carry)) < (u64.wrap (a_3 + b_3)))) then
 go ((1:Int),(i64.wrap (i + (1:Int))),c3_0,c3_1,c3_2,(u64.wrap ((u64.wrap (a_3 + b_3)) + carry)))
 else
 go ((0:Int),(i64.wrap (i + (1:Int))),c3_0,c3_1,c3_2,(u64.wrap ((u64.wrap (a_3 + b_3)) + carry))))]
 else
 some (c3_0,c3_1,c3_2,c3_3)
def f117 (a_0:Int) (a_1:Int) (a_2:Int) (a_3:Int) (b_0:Int) (b_1:Int) (b_2:Int) (b_3:Int) : Option (Int×Int×Int×Int) :=
 bindF (loopF (fun go x=>f117_l1 a_0 a_1 a_2 a_3 b_0 b_1 b_2 b_3 go x.1 x.2.1 x.2.2.1 x.2.2.2.1 x.2.2.2.2.1 x.2.2.2.2.2) fuelN ((0:Int),(0:Int),(0:Int),(0:Int),(0:Int),(0:Int))) fun z3 =>
 some (z3.1,z3.2.1,z3.2.2.1,z3.2.2.2)
def C117 : Con where
 X := Int×Int×Int×Int×Int×Int×Int×Int
 Y := Int×Int×Int×Int
 e := 0
 args x := [.raw true [(.d T4 x.1),(.d T4 x.2.1),(.d T4 x.2.2.1),(.d T4 x.2.2.2.1)],.raw true [(.d T4 x.2.2.2.2.1),(.d T4 x.2.2.2.2.2.1),(.d T4 x.2.2.2.2.2.2.1),(.d T4 x.2.2.2.2.2.2.2)]]
 hin x := []
 F x := f117 x.1 x.2.1 x.2.2.1 x.2.2.2.1 x.2.2.2.2.1 x.2.2.2.2.2.1 x.2.2.2.2.2.2.1 x.2.2.2.2.2.2.2
 ret y := [.raw true [(.d T4 y.1),(.d T4 y.2.1),(.d T4 y.2.2.1),(.d T4 y.2.2.2)]]
 hout y := []
 nout := 0
theorem C117_vc (a_0:Int) (a_1:Int) (a_2:Int) (a_3:Int) (b_0:Int) (b_1:Int) (b_2:Int) (b_3:Int) (y : Int×Int×Int×Int) (q : f117 a_0 a_1 a_2 a_3 b_0 b_1 b_2 b_3 = some y) : VC Tryz.f117 C117 (a_0,a_1,a_2,a_3,b_0,b_1,b_2,b_3) y := by
 unfold f117 at q
 refine OL (OL (OL (OL (OL ?_))))
 obtain ⟨z3,hz3,q⟩ := bE q
 refine lI (Int×Int×Int×Int×Int×Int) (Int×Int×Int×Int) (fun x=>⟨[(2,P0 0 0),(3,P0 1 0),(4,P0 2 0),(5,P0 3 0),(6,.dat T4 x.1),(7,.dat T2 x.2.1)],[(0,.cells [(.d T4 a_0),(.d T4 a_1),(.d T4 a_2),(.d T4 a_3)]),(1,.cells [(.d T4 b_0),(.d T4 b_1),(.d T4 b_2),(.d T4 b_3)]),(2,.cells [(.d T4 (0:Int)),(.d T4 (0:Int)),(.d T4 (0:Int)),(.d T4 (0:Int))]),(3,.cells [(.d T4 x.2.2.1),(.d T4 x.2.2.2.1),(.d T4 x.2.2.2.2.1),(.d T4 x.2.2.2.2.2)])],4⟩) (fun z=>[(2,⟨[(4,P0 0 0),(5,P0 1 0)],[(0,.cells [(.d T4 (0:Int)),(.d T4 (0:Int)),(.d T4 (0:Int)),(.d T4 (0:Int))]),(1,.cells [(.d T4 z.1),(.d T4 z.2.1),(.d T4 z.2.2.1),(.d T4 z.2.2.2)])],2⟩)]) (loopF (fun go x=>f117_l1 a_0 a_1 a_2 a_3 b_0 b_1 b_2 b_3 go x.1 x.2.1 x.2.2.1 x.2.2.2.1 x.2.2.2.2.1 x.2.2.2.2.2)) fuelN ((0:Int),(0:Int),(0:Int),(0:Int),(0:Int),(0:Int)) z3 (AI hz3 (AI (E4 I4 (R3 (AI (R4 TV) (R4 TV)))) (AI (fun _ _ h=>lZ h) (AI (fun m=>curI (fun carry=>curI (fun i=>curI (fun c3_0=>curI (fun c3_1=>curI (fun c3_2=>fun c3_3 z q=>?_)))))) ?_))))
 ·have q : f117_l1 a_0 a_1 a_2 a_3 b_0 b_1 b_2 b_3 (loopF (fun go x=>f117_l1 a_0 a_1 a_2 a_3 b_0 b_1 b_2 b_3 go x.1 x.2.1 x.2.2.1 x.2.2.2.1 x.2.2.2.2.1 x.2.2.2.2.2) m) carry i c3_0 c3_1 c3_2 c3_3 = some z := q
  unfold f117_l1 at q
  refine OL (OL (cI q (fun q=>?_) (fun q=>?_)))
  ·refine OL (OL (EI (.take 0 (.take 1 (.take 2 (.take 3 (.take 4 (.take 5 (.take 6 (.take 7 .done)))))))) (EI [] (EI [] (AI rfl (gI q (fun q=>?_)))))))
   refine AI (fun hk4=>?_) ?_
   ·have q := pickE q hk4
    dsimp only [nthO] at q
    refine AI (rE hk4 (by decide)) (AI (fun _=>?_) (AI (fun h=>absurd (hk4.symm.trans h) (by decide)) (AI (fun h=>absurd (hk4.symm.trans h) (by decide)) (AI (fun h=>absurd (hk4.symm.trans h) (by decide)) TV))))
    refine OL (OL (AI (rE hk4 (by decide)) (AI (fun _=>?_) (AI (fun h=>absurd (hk4.symm.trans h) (by decide)) (AI (fun h=>absurd (hk4.symm.trans h) (by decide)) (AI (fun h=>absurd (hk4.symm.trans h) (by decide)) TV))))))
    refine OL (OL (AI (rE hk4 (by decide)) (AI (fun _=>?_) (AI (fun h=>absurd (hk4.symm.trans h) (by decide)) (AI (fun h=>absurd (hk4.symm.trans h) (by decide)) (AI (fun h=>absurd (hk4.symm.trans h) (by decide)) TV))))))
    refine cN q (fun q=>?_) (fun q=>?_)
    ·refine gY (gY (cF (cI q (fun q=>?_) (fun q=>?_))))
     ·refine EI ((1:Int),(i64.wrap (i + (1:Int))),(u64.wrap ((u64.wrap (a_0 + b_0)) + carry)),c3_1,c3_2,c3_3) (AI q (E4 I4 (R3 (AI (R4 TV) (R4 TV)))))
     refine EI ((0:Int),(i64.wrap (i + (1:Int))),(u64.wrap ((u64.wrap (a_0 + b_0)) + carry)),c3_1,c3_2,c3_3) (AI q (E4 I4 (R3 (AI (R4 TV) (R4 TV)))))
    refine gN (gN (cT (cT (EI ((1:Int),(i64.wrap (i + (1:Int))),(u64.wrap ((u64.wrap (a_0 + b_0)) + carry)),c3_1,c3_2,c3_3) (AI q (E4 I4 (R3 (AI (R4 TV) (R4 TV)))))))))
   refine AI (fun hk4=>?_) ?_
   ·have q := pickE q hk4
    dsimp only [nthO] at q
    refine AI (rE hk4 (by decide)) (AI (fun h=>absurd (hk4.symm.trans h) (by decide)) ?_)
    refine AI (fun _=>?_) (AI (fun h=>absurd (hk4.symm.trans h) (by decide)) (AI (fun h=>absurd (hk4.symm.trans h) (by decide)) TV))
    refine OL (OL (AI (rE hk4 (by decide)) (AI (fun h=>absurd (hk4.symm.trans h) (by decide)) ?_)))
    refine AI (fun _=>?_) (AI (fun h=>absurd (hk4.symm.trans h) (by decide)) (AI (fun h=>absurd (hk4.symm.trans h) (by decide)) TV))
    refine OL (OL (AI (rE hk4 (by decide)) (AI (fun h=>absurd (hk4.symm.trans h) (by decide)) ?_)))
    refine AI (fun _=>?_) (AI (fun h=>absurd (hk4.symm.trans h) (by decide)) (AI (fun h=>absurd (hk4.symm.trans h) (by decide)) TV))
    refine cN q (fun q=>?_) (fun q=>?_)
    ·refine gY (gY (cF (cI q (fun q=>?_) (fun q=>?_))))
     ·refine EI ((1:Int),(i64.wrap (i + (1:Int))),c3_0,(u64.wrap ((u64.wrap (a_1 + b_1)) + carry)),c3_2,c3_3) (AI q (E4 I4 (R3 (AI (R4 TV) (R4 TV)))))
     refine EI ((0:Int),(i64.wrap (i + (1:Int))),c3_0,(u64.wrap ((u64.wrap (a_1 + b_1)) + carry)),c3_2,c3_3) (AI q (E4 I4 (R3 (AI (R4 TV) (R4 TV)))))
    refine gN (gN (cT (cT (EI ((1:Int),(i64.wrap (i + (1:Int))),c3_0,(u64.wrap ((u64.wrap (a_1 + b_1)) + carry)),c3_2,c3_3) (AI q (E4 I4 (R3 (AI (R4 TV) (R4 TV)))))))))
   refine AI (fun hk4=>?_) ?_
   ·have q := pickE q hk4
    dsimp only [nthO] at q
    refine AI (rE hk4 (by decide)) (AI (fun h=>absurd (hk4.symm.trans h) (by decide)) ?_)
    refine AI (fun h=>absurd (hk4.symm.trans h) (by decide)) ?_
    refine AI (fun _=>?_) (AI (fun h=>absurd (hk4.symm.trans h) (by decide)) TV)
    refine OL (OL (AI (rE hk4 (by decide)) (AI (fun h=>absurd (hk4.symm.trans h) (by decide)) ?_)))
    refine AI (fun h=>absurd (hk4.symm.trans h) (by decide)) ?_
    refine AI (fun _=>?_) (AI (fun h=>absurd (hk4.symm.trans h) (by decide)) TV)
    refine OL (OL (AI (rE hk4 (by decide)) (AI (fun h=>absurd (hk4.symm.trans h) (by decide)) ?_)))
    refine AI (fun h=>absurd (hk4.symm.trans h) (by decide)) ?_
    refine AI (fun _=>?_) (AI (fun h=>absurd (hk4.symm.trans h) (by decide)) TV)
    refine cN q (fun q=>?_) (fun q=>?_)
    ·refine gY (gY (cF (cI q (fun q=>?_) (fun q=>?_))))
     ·refine EI ((1:Int),(i64.wrap (i + (1:Int))),c3_0,c3_1,(u64.wrap ((u64.wrap (a_2 + b_2)) + carry)),c3_3) (AI q (E4 I4 (R3 (AI (R4 TV) (R4 TV)))))
     refine EI ((0:Int),(i64.wrap (i + (1:Int))),c3_0,c3_1,(u64.wrap ((u64.wrap (a_2 + b_2)) + carry)),c3_3) (AI q (E4 I4 (R3 (AI (R4 TV) (R4 TV)))))
    refine gN (gN (cT (cT (EI ((1:Int),(i64.wrap (i + (1:Int))),c3_0,c3_1,(u64.wrap ((u64.wrap (a_2 + b_2)) + carry)),c3_3) (AI q (E4 I4 (R3 (AI (R4 TV) (R4 TV)))))))))
   refine AI (fun hk4=>?_) TV
   have q := pickE q hk4
   dsimp only [nthO] at q
   refine AI (rE hk4 (by decide)) (AI (fun h=>absurd (hk4.symm.trans h) (by decide)) ?_)
   refine AI (fun h=>absurd (hk4.symm.trans h) (by decide)) ?_
   refine AI (fun h=>absurd (hk4.symm.trans h) (by decide)) ?_
   refine AI (fun _=>?_) TV
   refine OL (OL (AI (rE hk4 (by decide)) (AI (fun h=>absurd (hk4.symm.trans h) (by decide)) ?_)))
   refine AI (fun h=>absurd (hk4.symm.trans h) (by decide)) ?_
   refine AI (fun h=>absurd (hk4.symm.trans h) (by decide)) ?_
   refine AI (fun _=>?_) TV
   refine OL (OL (AI (rE hk4 (by decide)) (AI (fun h=>absurd (hk4.symm.trans h) (by decide)) ?_)))
   refine AI (fun h=>absurd (hk4.symm.trans h) (by decide)) ?_
   refine AI (fun h=>absurd (hk4.symm.trans h) (by decide)) ?_
   refine AI (fun _=>?_) TV
   refine cN q (fun q=>?_) (fun q=>?_)
   ·refine gY (gY (cF (cI q (fun q=>?_) (fun q=>?_))))
    ·refine EI ((1:Int),(i64.wrap (i + (1:Int))),c3_0,c3_1,c3_2,(u64.wrap ((u64.wrap (a_3 + b_3)) + carry))) (AI q (E4 I4 (R3 (AI (R4 TV) (R4 TV)))))
    refine EI ((0:Int),(i64.wrap (i + (1:Int))),c3_0,c3_1,c3_2,(u64.wrap ((u64.wrap (a_3 + b_3)) + carry))) (AI q (E4 I4 (R3 (AI (R4 TV) (R4 TV)))))
   refine gN (gN (cT (cT (EI ((1:Int),(i64.wrap (i + (1:Int))),c3_0,c3_1,c3_2,(u64.wrap ((u64.wrap (a_3 + b_3)) + carry))) (AI q (E4 I4 (R3 (AI (R4 TV) (R4 TV)))))))))
  cases sE q
  refine E4 [(0,some 2),(1,some 3)] (AI rfl (AI (R2 TV) (R2 TV)))
 refine AI (OL (OL ?_)) TV
 cases sE q
 refine AI rfl (E4 [] (AI rfl (AJ TV)))
theorem C117_holds : HP C117 117 := hH Tryz.f117 (by kernel_rfl) rfl (fun x y q=>C117_vc x.1 x.2.1 x.2.2.1 x.2.2.2.1 x.2.2.2.2.1 x.2.2.2.2.2.1 x.2.2.2.2.2.2.1 x.2.2.2.2.2.2.2 y q)
theorem f117_in : InP 117 := inP (by kernel_rfl)
def f60_j3 (a_M_0:Int) (a_M_1:Int) (a_M_2:Int) (a_M_3:Int) : Option Bool :=
 bif ((bitsOf IntKind.u64 (fun p q=>p ||| q) (bitsOf IntKind.u64 (fun p q=>p ||| q) a_M_1 a_M_2) a_M_3) != (0:Int)) then
 some true
 else
 some (decide (a_M_0 ≥ (9223372036854775808:Int)))
def f60_j2 (a_Neg : Bool) (a_M_0:Int) (a_M_1:Int) (a_M_2:Int) (a_M_3:Int) : Option (Sum Unit Int) :=
 bindF (f60_j3 a_M_0 a_M_1 a_M_2 a_M_3) fun z3 =>
 bif z3 then
 bif a_Neg then
 some (Sum.inr (-9223372036854775808:Int))
 else
 some (Sum.inr (9223372036854775807:Int))
 else
 some (Sum.inl ())
def f60 (a_Neg : Bool) (a_M_0:Int) (a_M_1:Int) (a_M_2:Int) (a_M_3:Int) : Option Int :=
 bindF (f60_j2 a_Neg a_M_0 a_M_1 a_M_2 a_M_3) fun z2 =>
 sumF z2 (fun z2a =>
 bif a_Neg then
 some (i64.wrap (0 - (i64.wrap a_M_0)))
 else
 some (i64.wrap a_M_0)) (fun z2b =>
 some z2b)
def C60 : Con where
 X := Bool×Int×Int×Int×Int
 Y := Int
 e := 0
 args x := [.raw true [(.d .bool x.1),(.d T4 x.2.1),(.d T4 x.2.2.1),(.d T4 x.2.2.2.1),(.d T4 x.2.2.2.2)]]
 hin x := []
 F x := f60 x.1 x.2.1 x.2.2.1 x.2.2.2.1 x.2.2.2.2
 ret y := [.dat T2 y]
 hout y := []
 nout := 0
theorem C60_vc (a_Neg : Bool) (a_M_0:Int) (a_M_1:Int) (a_M_2:Int) (a_M_3:Int) (y:Int) (q : f60 a_Neg a_M_0 a_M_1 a_M_2 a_M_3 = some y) : VC Tryz.f60 C60 (a_Neg,a_M_0,a_M_1,a_M_2,a_M_3) y := by
 unfold f60 at q
 refine OL ?_
 obtain ⟨z2,hz2,q⟩ := bE q
 refine OQ ⟨Sum.elim (fun z2a=>[(0,⟨[(1,P0 0 0)],[(0,.cells [(.d .bool a_Neg),(.d T4 a_M_0),(.d T4 a_M_1),(.d T4 a_M_2),(.d T4 a_M_3)])],1⟩)]) (fun z2b=>[(1,⟨[(2,.dat T2 z2b)],[],0⟩)]) z2,?_,?_⟩
 ·have q := hz2
  clear hz2
  unfold f60_j2 at q
  obtain ⟨z3,hz3,q⟩ := bE q
  refine OQ ⟨[(0,⟨[(1,P0 0 0),(20,.dat .bool z3)],[(0,.cells [(.d .bool a_Neg),(.d T4 a_M_0),(.d T4 a_M_1),(.d T4 a_M_2),(.d T4 a_M_3)])],1⟩)],?_,?_⟩
  ·have q := hz3
   clear hz3
   unfold f60_j3 at q
   refine AI (by decide) (AI (fun h=>absurd h (by decide)) ?_)
   refine AI (fun _=>?_) (AI (fun h=>absurd h (by decide)) (AI (fun h=>absurd h (by decide)) TV))
   refine AI (by decide) (AI (fun h=>absurd h (by decide)) ?_)
   refine AI (fun h=>absurd h (by decide)) ?_
   refine AI (fun _=>?_) (AI (fun h=>absurd h (by decide)) TV)
   refine AI (by decide) (AI (fun h=>absurd h (by decide)) ?_)
   refine AI (fun h=>absurd h (by decide)) ?_
   refine AI (fun h=>absurd h (by decide)) ?_
   refine AI (fun _=>?_) TV
   refine cN q (fun q=>?_) (fun q=>?_)
   ·refine gY (AI (by decide) (AI (fun _=>?_) (AI (fun h=>absurd h (by decide)) (AI (fun h=>absurd h (by decide)) (AI (fun h=>absurd h (by decide)) TV)))))
    refine gY (gY (cF ?_))
    cases sE q
    refine E4 [(0,some 0)] (R2 (AJ (AI rfl TV)))
   refine gN (gN (gN (cT ?_)))
   cases sE q
   refine E4 [(0,some 0)] (R2 (AJ (AI rfl TV)))
  refine AI (cI q (fun q=>?_) (fun q=>?_)) TV
  ·refine OL (OL (cI q (fun q=>?_) (fun q=>?_)))
   ·cases sE q
    refine OL (E4 [] (R2 (AI TV TV)))
   cases sE q
   refine OL (E4 [] (R2 (AI TV TV)))
  cases sE q
  refine E4 [(0,some 0)] (AI rfl (AJ (AI rfl TV)))
 rcases z2 with z2a | z2b
 ·dsimp only [sumF] at q
  refine AI (OL (OL (cI q (fun q=>?_) (fun q=>?_)))) TV
  ·refine OL (AI (by decide) (AI (fun _=>?_) (AI (fun h=>absurd h (by decide)) (AI (fun h=>absurd h (by decide)) (AI (fun h=>absurd h (by decide)) TV)))))
   cases sE q
   refine AI rfl (E4 [] (R2 (AI TV TV)))
  refine OL (AI (by decide) (AI (fun _=>?_) (AI (fun h=>absurd h (by decide)) (AI (fun h=>absurd h (by decide)) (AI (fun h=>absurd h (by decide)) TV)))))
  cases sE q
  refine AI rfl (E4 [] (R2 (AI TV TV)))
 dsimp only [sumF] at q
 refine AI ?_ TV
 cases sE q
 refine AI rfl (E4 [] (R2 (AI TV TV)))
theorem C60_holds : HP C60 60 := hH Tryz.f60 (by kernel_rfl) rfl (fun x y q=>C60_vc x.1 x.2.1 x.2.2.1 x.2.2.2.1 x.2.2.2.2 y q)
theorem f60_in : InP 60 := inP (by kernel_rfl)
def f70_l1 (r1:Int) (r2:Int) (go : (Int×Int×Int×Int×Int) → Option (Int×Int×Int×Int)) (v40:Int) (c1_0:Int) (c1_1:Int) (c1_2:Int) (c1_3:Int) : Option (Int×Int×Int×Int) :=
 bif (decide (v40 < (2:Int))) then
 guardF (0 ≤ v40 ∧ v40 < (2:Int)) <|
 pickF v40
 [(bindF (f117 c1_0 c1_1 c1_2 c1_3 (u64.wrap ((u64.wrap ((bitsOf IntKind.u64 (fun p q=>p &&& q) r1 (4294967295:Int)) * (Int.fdiv r2 (2 ^ min (Int.toNat (32:Int)) u64.bits)))) * 2 ^ min (Int.toNat (32:Int)) u64.bits)) (Int.fdiv (u64.wrap ((bitsOf IntKind.u64 (fun p q=>p &&& q) r1 (4294967295:Int)) * (Int.fdiv r2 (2 ^ min (Int.toNat (32:Int)) u64.bits)))) (2 ^ min (Int.toNat (32:Int)) u64.bits)) (0:Int) (0:Int)) fun r9 =>
 go ((i64.wrap (v40 + (1:Int))),r9.1,r9.2.1,r9.2.2.1,r9.2.2.2)),
 (bindF (f117 c1_0 c1_1 c1_2 c1_3 (u64.wrap ((u64.wrap ((Int.fdiv r1 (2 ^ min (Int.toNat (32:Int)) u64.bits)) * (bitsOf IntKind.u64 (fun p q=>p &&& q) r2 (4294967295:Int)))) * 2 ^ min (Int.toNat (32:Int)) u64.bits)) (Int.fdiv (u64.wrap ((Int.fdiv r1 (2 ^ min (Int.toNat (32:Int)) u64.bits)) * (bitsOf IntKind.u64 (fun p q=>p &&& q) r2 (4294967295:Int)))) (2 ^ min (Int.toNat (32:Int)) u64.bits)) (0:Int) (0:Int)) fun r10 =>
 go ((i64.wrap (v40 + (1:Int))),r10.1,r10.2.1,r10.2.2.1,r10.2.2.2))]
 else
 some (c1_0,c1_1,c1_2,c1_3)
def f70 (a:Int) (b:Int) : Option (Bool×Int×Int×Int×Int) :=
 bindF (f115 a) fun r1 =>
 bindF (f115 b) fun r2 =>
 bindF (loopF (fun go x=>f70_l1 r1 r2 go x.1 x.2.1 x.2.2.1 x.2.2.2.1 x.2.2.2.2) fuelN ((0:Int),(u64.wrap ((bitsOf IntKind.u64 (fun p q=>p &&& q) r1 (4294967295:Int)) * (bitsOf IntKind.u64 (fun p q=>p &&& q) r2 (4294967295:Int)))),(u64.wrap ((Int.fdiv r1 (2 ^ min (Int.toNat (32:Int)) u64.bits)) * (Int.fdiv r2 (2 ^ min (Int.toNat (32:Int)) u64.bits)))),(0:Int),(0:Int))) fun z7 =>
 some ((!((decide (a < (0:Int))) == (decide (b < (0:Int))))),z7.1,z7.2.1,z7.2.2.1,z7.2.2.2)
def C70 : Con where
 X := Int×Int
 Y := Bool×Int×Int×Int×Int
 e := 0
 args x := [.dat T2 x.1,.dat T2 x.2]
 hin x := []
 F x := f70 x.1 x.2
 ret y := [.raw true [(.d .bool y.1),(.d T4 y.2.1),(.d T4 y.2.2.1),(.d T4 y.2.2.2.1),(.d T4 y.2.2.2.2)]]
 hout y := []
 nout := 0
theorem C70_vc (a:Int) (b:Int) (y : Bool×Int×Int×Int×Int) (q : f70 a b = some y) : VC Tryz.f70 C70 (a,b) y := by
 unfold f70 at q
 refine OL (OL ?_)
 obtain ⟨r1,hr1,q⟩ := bE q
 refine OL (AI f115_in (cV (cQ C115 a r1 [] false C115_holds hr1 rfl rfl (AI rfl (K0 ?_)))))
 obtain ⟨r2,hr2,q⟩ := bE q
 refine OL (AI f115_in (cV (cQ C115 b r2 [] false C115_holds hr2 rfl rfl (AI rfl (K0 (OL (AI (by decide) (AI (by decide) (OL (OL (OL (OL ?_))))))))))))
 obtain ⟨z7,hz7,q⟩ := bE q
 refine lI (Int×Int×Int×Int×Int) (Int×Int×Int×Int) (fun x=>⟨[(0,.dat T2 a),(1,.dat T2 b),(4,P0 0 0),(11,P0 1 0),(39,.raw true [(.d T4 (u64.wrap ((bitsOf IntKind.u64 (fun p q=>p &&& q) r1 (4294967295:Int)) * (Int.fdiv r2 (2 ^ min (Int.toNat (32:Int)) u64.bits))))),(.d T4 (u64.wrap ((Int.fdiv r1 (2 ^ min (Int.toNat (32:Int)) u64.bits)) * (bitsOf IntKind.u64 (fun p q=>p &&& q) r2 (4294967295:Int)))))]),(40,.dat T2 x.1)],[(0,.cells [(.d .bool false),(.d T4 (0:Int)),(.d T4 (0:Int)),(.d T4 (0:Int)),(.d T4 (0:Int))]),(1,.cells [(.d T4 x.2.1),(.d T4 x.2.2.1),(.d T4 x.2.2.2.1),(.d T4 x.2.2.2.2)])],2⟩) (fun z=>[(2,⟨[(0,.dat T2 a),(1,.dat T2 b),(4,P0 0 0),(11,P0 1 0)],[(0,.cells [(.d .bool false),(.d T4 (0:Int)),(.d T4 (0:Int)),(.d T4 (0:Int)),(.d T4 (0:Int))]),(1,.cells [(.d T4 z.1),(.d T4 z.2.1),(.d T4 z.2.2.1),(.d T4 z.2.2.2)])],2⟩)]) (loopF (fun go x=>f70_l1 r1 r2 go x.1 x.2.1 x.2.2.1 x.2.2.2.1 x.2.2.2.2)) fuelN ((0:Int),(u64.wrap ((bitsOf IntKind.u64 (fun p q=>p &&& q) r1 (4294967295:Int)) * (bitsOf IntKind.u64 (fun p q=>p &&& q) r2 (4294967295:Int)))),(u64.wrap ((Int.fdiv r1 (2 ^ min (Int.toNat (32:Int)) u64.bits)) * (Int.fdiv r2 (2 ^ min (Int.toNat (32:Int)) u64.bits)))),(0:Int),(0:Int)) z7 (AI hz7 (AI (E4 I2 (R4 (AI (R3 TV) (R2 TV)))) (AI (fun _ _ h=>lZ h) (AI (fun m=>curI (fun v40=>curI (fun c1_0=>curI (fun c1_1=>curI (fun c1_2=>fun c1_3 z q=>?_))))) ?_))))
 ·have q : f70_l1 r1 r2 (loopF (fun go x=>f70_l1 r1 r2 go x.1 x.2.1 x.2.2.1 x.2.2.2.1 x.2.2.2.2) m) v40 c1_0 c1_1 c1_2 c1_3 = some z := q
  unfold f70_l1 at q
  refine OL (OL (cI q (fun q=>?_) (fun q=>?_)))
  ·refine OL (OL (gI q (fun q=>?_)))
   refine AI (fun hk8=>?_) ?_
   ·have q := pickE q hk8
    dsimp only [nthO] at q
    refine AI (by decide) (AI (by decide) ?_)
    obtain ⟨r9,hr9,q⟩ := bE q
    refine OL (AI f117_in (cV (cQ C117 (c1_0,c1_1,c1_2,c1_3,(u64.wrap ((u64.wrap ((bitsOf IntKind.u64 (fun p q=>p &&& q) r1 (4294967295:Int)) * (Int.fdiv r2 (2 ^ min (Int.toNat (32:Int)) u64.bits)))) * 2 ^ min (Int.toNat (32:Int)) u64.bits)),(Int.fdiv (u64.wrap ((bitsOf IntKind.u64 (fun p q=>p &&& q) r1 (4294967295:Int)) * (Int.fdiv r2 (2 ^ min (Int.toNat (32:Int)) u64.bits)))) (2 ^ min (Int.toNat (32:Int)) u64.bits)),(0:Int),(0:Int)) r9 [] false C117_holds hr9 rfl rfl ?_)))
    refine AI NH (R2 (AI (R2 TV) (AI TV (OL (EI ((i64.wrap (v40 + (1:Int))),r9.1,r9.2.1,r9.2.2.1,r9.2.2.2) (AI q (E4 I2 (R4 (AI (R3 TV) (R2 TV))))))))))
   refine AI (fun hk8=>?_) TV
   have q := pickE q hk8
   dsimp only [nthO] at q
   refine AI (by decide) (AI (by decide) ?_)
   obtain ⟨r10,hr10,q⟩ := bE q
   refine OL (AI f117_in (cV (cQ C117 (c1_0,c1_1,c1_2,c1_3,(u64.wrap ((u64.wrap ((Int.fdiv r1 (2 ^ min (Int.toNat (32:Int)) u64.bits)) * (bitsOf IntKind.u64 (fun p q=>p &&& q) r2 (4294967295:Int)))) * 2 ^ min (Int.toNat (32:Int)) u64.bits)),(Int.fdiv (u64.wrap ((Int.fdiv r1 (2 ^ min (Int.toNat (32:Int)) u64.bits)) * (bitsOf IntKind.u64 (fun p q=>p &&& q) r2 (4294967295:Int)))) (2 ^ min (Int.toNat (32:Int)) u64.bits)),(0:Int),(0:Int)) r10 [] false C117_holds hr10 rfl rfl ?_)))
   refine AI NH (R2 (AI (R2 TV) (AI TV (OL (EI ((i64.wrap (v40 + (1:Int))),r10.1,r10.2.1,r10.2.2.1,r10.2.2.2) (AI q (E4 I2 (R4 (AI (R3 TV) (R2 TV))))))))))
  cases sE q
  refine E4 I2 (R3 (AI (R2 TV) (R2 TV)))
 refine AI (OL (OL ?_)) TV
 cases sE q
 refine AI rfl (E4 [] (AI rfl (AJ TV)))
theorem C70_holds : HP C70 70 := hH Tryz.f70 (by kernel_rfl) rfl (fun x y q=>C70_vc x.1 x.2 y q)
theorem f70_in : InP 70 := inP (by kernel_rfl)
def f116 (m_0:Int) (m_1:Int) (m_2:Int) (m_3:Int) (i:Int) : Option Int :=
 guardF (0 ≤ (i64.wrap (Int.tdiv i (64:Int))) ∧ (i64.wrap (Int.tdiv i (64:Int))) < (4:Int)) <|
 pickF (i64.wrap (Int.tdiv i (64:Int)))
 [(guardF (0 ≤ (u64.wrap (Int.tmod i (64:Int)))) <|
 some (bitsOf IntKind.u64 (fun p q=>p &&& q) (Int.fdiv m_0 (2 ^ min (Int.toNat (u64.wrap (Int.tmod i (64:Int)))) u64.bits)) (1:Int))),
 (guardF (0 ≤ (u64.wrap (Int.tmod i (64:Int)))) <|
 some (bitsOf IntKind.u64 (fun p q=>p &&& q) (Int.fdiv m_1 (2 ^ min (Int.toNat (u64.wrap (Int.tmod i (64:Int)))) u64.bits)) (1:Int))),
 (guardF (0 ≤ (u64.wrap (Int.tmod i (64:Int)))) <|
 some (bitsOf IntKind.u64 (fun p q=>p &&& q) (Int.fdiv m_2 (2 ^ min (Int.toNat (u64.wrap (Int.tmod i (64:Int)))) u64.bits)) (1:Int))),
 (guardF (0 ≤ (u64.wrap (Int.tmod i (64:Int)))) <|
 some (bitsOf IntKind.u64 (fun p q=>p &&& q) (Int.fdiv m_3 (2 ^ min (Int.toNat (u64.wrap (Int.tmod i (64:Int)))) u64.bits)) (1:Int)))]
def C116 : Con where
 X := Int×Int×Int×Int×Int
 Y := Int
 e := 0
 args x := [.raw true [(.d T4 x.1),(.d T4 x.2.1),(.d T4 x.2.2.1),(.d T4 x.2.2.2.1)],.dat T2 x.2.2.2.2]
 hin x := []
 F x := f116 x.1 x.2.1 x.2.2.1 x.2.2.2.1 x.2.2.2.2
 ret y := [.dat T4 y]
 hout y := []
 nout := 0
theorem C116_vc (m_0:Int) (m_1:Int) (m_2:Int) (m_3:Int) (i:Int) (y:Int) (q : f116 m_0 m_1 m_2 m_3 i = some y) : VC Tryz.f116 C116 (m_0,m_1,m_2,m_3,i) y := by
 unfold f116 at q
 refine OL (OL (AI (by decide) (gI q (fun q=>?_))))
 refine AI (fun hk1=>?_) ?_
 ·have q := pickE q hk1
  dsimp only [nthO] at q
  refine AI (by decide) (gI q (fun q=>?_))
  cases sE q
  refine AI rfl (E4 [] (R2 (AI TV TV)))
 refine AI (fun hk1=>?_) ?_
 ·have q := pickE q hk1
  dsimp only [nthO] at q
  refine AI (by decide) (gI q (fun q=>?_))
  cases sE q
  refine AI rfl (E4 [] (R2 (AI TV TV)))
 refine AI (fun hk1=>?_) ?_
 ·have q := pickE q hk1
  dsimp only [nthO] at q
  refine AI (by decide) (gI q (fun q=>?_))
  cases sE q
  refine AI rfl (E4 [] (R2 (AI TV TV)))
 refine AI (fun hk1=>?_) TV
 have q := pickE q hk1
 dsimp only [nthO] at q
 refine AI (by decide) (gI q (fun q=>?_))
 cases sE q
 refine AI rfl (E4 [] (R2 (AI TV TV)))
theorem C116_holds : HP C116 116 := hH Tryz.f116 (by kernel_rfl) rfl (fun x y q=>C116_vc x.1 x.2.1 x.2.2.1 x.2.2.2.1 x.2.2.2.2 y q)
theorem f116_in : InP 116 := inP (by kernel_rfl)
def f69_l1 (a_M_0:Int) (a_M_1:Int) (a_M_2:Int) (a_M_3:Int) (n:Int) (go : (Int×Int×Int×Int×Int) → Option (Int×Int×Int×Int)) (i:Int) (c2_1:Int) (c2_2:Int) (c2_3:Int) (c2_4:Int) : Option (Int×Int×Int×Int) :=
 bif (decide (i < (256:Int))) then
 bindF (f116 a_M_0 a_M_1 a_M_2 a_M_3 i) fun r6 =>
 bif (r6 == (1:Int)) then
 guardF (0 ≤ (i64.wrap (Int.tdiv (i64.wrap (i - n)) (64:Int))) ∧ (i64.wrap (Int.tdiv (i64.wrap (i - n)) (64:Int))) < (4:Int)) <|
 pickF (i64.wrap (Int.tdiv (i64.wrap (i - n)) (64:Int)))
 [(guardF (0 ≤ (u64.wrap (Int.tmod (i64.wrap (i - n)) (64:Int)))) <|
 go ((i64.wrap (i + (1:Int))),(bitsOf IntKind.u64 (fun p q=>p ||| q) c2_1 (u64.wrap ((1:Int) * 2 ^ min (Int.toNat (u64.wrap (Int.tmod (i64.wrap (i - n)) (64:Int)))) u64.bits))),c2_2,c2_3,c2_4)),
 (guardF (0 ≤ (u64.wrap (Int.tmod (i64.wrap (i - n)) (64:Int)))) <|
 go ((i64.wrap (i + (1:Int))),c2_1,(bitsOf IntKind.u64 (fun p q=>p ||| q) c2_2 (u64.wrap ((1:Int) * 2 ^ min (Int.toNat (u64.wrap (Int.tmod (i64.wrap (i - n)) (64:Int)))) u64.bits))),c2_3,c2_4)),
 (guardF (0 ≤ (u64.wrap (Int.tmod (i64.wrap (i - n)) (64:Int)))) <|
 go ((i64.wrap (i + (1:Int))),c2_1,c2_2,(bitsOf IntKind.u64 (fun p q=>p ||| q) c2_3 (u64.wrap ((1:Int) * 2 ^ min (Int.toNat (u64.wrap (Int.tmod (i64.wrap (i - n)) (64:Int)))) u64.bits))),c2_4)),
 (guardF (0 ≤ (u64.wrap (Int.tmod (i64.wrap (i - n)) (64:Int)))) <|
 go ((i64.wrap (i + (1:Int))),c2_1,c2_2,c2_3,(bitsOf IntKind.u64 (fun p q=>p ||| q) c2_4 (u64.wrap ((1:Int) * 2 ^ min (Int.toNat (u64.wrap (Int.tmod (i64.wrap (i - n)) (64:Int)))) u64.bits)))))]
 else
 go ((i64.wrap (i + (1:Int))),c2_1,c2_2,c2_3,c2_4)
 else
 some (c2_1,c2_2,c2_3,c2_4)
def f69_j2 (a_M_0:Int) (a_M_1:Int) (a_M_2:Int) (a_M_3:Int) (n:Int) : Option (Sum Unit Unit) :=
 bif (n == (0:Int)) then
 some (Sum.inr ())
 else
 bindF (f116 a_M_0 a_M_1 a_M_2 a_M_3 (i64.wrap (n - (1:Int)))) fun r10 =>
 bif (r10 == (0:Int)) then
 some (Sum.inr ())
 else
 some (Sum.inl ())
def f69_l3 (a_M_0:Int) (a_M_1:Int) (a_M_2:Int) (a_M_3:Int) (n:Int) (go : (Bool×Int) → Option Bool) (more : Bool) (i:Int) : Option Bool :=
 bif (decide (i < (i64.wrap (n - (1:Int))))) then
 bif more then
 go (true,(i64.wrap (i + (1:Int))))
 else
 bindF (f116 a_M_0 a_M_1 a_M_2 a_M_3 i) fun r14 =>
 go ((r14 == (1:Int)),(i64.wrap (i + (1:Int))))
 else
 some more
def f69 (a_Neg : Bool) (a_M_0:Int) (a_M_1:Int) (a_M_2:Int) (a_M_3:Int) (n:Int) : Option (Bool×Int×Int×Int×Int) :=
 bindF (loopF (fun go x=>f69_l1 a_M_0 a_M_1 a_M_2 a_M_3 n go x.1 x.2.1 x.2.2.1 x.2.2.2.1 x.2.2.2.2) fuelN (n,(0:Int),(0:Int),(0:Int),(0:Int))) fun z5 =>
 bindF (f69_j2 a_M_0 a_M_1 a_M_2 a_M_3 n) fun z9 =>
 sumF z9 (fun z9a =>
 bindF (loopF (fun go x=>f69_l3 a_M_0 a_M_1 a_M_2 a_M_3 n go x.1 x.2) fuelN (((bitsOf IntKind.u64 (fun p q=>p &&& q) z5.1 (1:Int)) == (1:Int)),(0:Int))) fun z13 =>
 bif z13 then
 bindF (f117 z5.1 z5.2.1 z5.2.2.1 z5.2.2.2 (1:Int) (0:Int) (0:Int) (0:Int)) fun r15 =>
 some (a_Neg,r15.1,r15.2.1,r15.2.2.1,r15.2.2.2)
 else
 some (a_Neg,z5.1,z5.2.1,z5.2.2.1,z5.2.2.2)) (fun z9b =>
 some (a_Neg,z5.1,z5.2.1,z5.2.2.1,z5.2.2.2))
def C69 : Con where
 X := Bool×Int×Int×Int×Int×Int
 Y := Bool×Int×Int×Int×Int
 e := 0
 args x := [.raw true [(.d .bool x.1),(.d T4 x.2.1),(.d T4 x.2.2.1),(.d T4 x.2.2.2.1),(.d T4 x.2.2.2.2.1)],.dat T2 x.2.2.2.2.2]
 hin x := []
 F x := f69 x.1 x.2.1 x.2.2.1 x.2.2.2.1 x.2.2.2.2.1 x.2.2.2.2.2
 ret y := [.raw true [(.d .bool y.1),(.d T4 y.2.1),(.d T4 y.2.2.1),(.d T4 y.2.2.2.1),(.d T4 y.2.2.2.2)]]
 hout y := []
 nout := 0
theorem C69_vc (a_Neg : Bool) (a_M_0:Int) (a_M_1:Int) (a_M_2:Int) (a_M_3:Int) (n:Int) (y : Bool×Int×Int×Int×Int) (q : f69 a_Neg a_M_0 a_M_1 a_M_2 a_M_3 n = some y) : VC Tryz.f69 C69 (a_Neg,a_M_0,a_M_1,a_M_2,a_M_3,n) y := by
 unfold f69 at q
 refine OL (OL (OL (OL (OL ?_))))
 obtain ⟨z5,hz5,q⟩ := bE q
 refine lI (Int×Int×Int×Int×Int) (Int×Int×Int×Int) (fun x=>⟨[(1,.dat T2 n),(2,P0 0 0),(4,P0 1 0),(5,P0 2 0),(6,.dat T2 x.1)],[(0,.cells [(.d .bool a_Neg),(.d T4 a_M_0),(.d T4 a_M_1),(.d T4 a_M_2),(.d T4 a_M_3)]),(1,.cells [(.d .bool false),(.d T4 (0:Int)),(.d T4 (0:Int)),(.d T4 (0:Int)),(.d T4 (0:Int))]),(2,.cells [(.d .bool a_Neg),(.d T4 x.2.1),(.d T4 x.2.2.1),(.d T4 x.2.2.2.1),(.d T4 x.2.2.2.2)])],3⟩) (fun z=>[(2,⟨[(1,.dat T2 n),(2,P0 0 0),(4,P0 1 0),(5,P0 2 0)],[(0,.cells [(.d .bool a_Neg),(.d T4 a_M_0),(.d T4 a_M_1),(.d T4 a_M_2),(.d T4 a_M_3)]),(1,.cells [(.d .bool false),(.d T4 (0:Int)),(.d T4 (0:Int)),(.d T4 (0:Int)),(.d T4 (0:Int))]),(2,.cells [(.d .bool a_Neg),(.d T4 z.1),(.d T4 z.2.1),(.d T4 z.2.2.1),(.d T4 z.2.2.2)])],3⟩)]) (loopF (fun go x=>f69_l1 a_M_0 a_M_1 a_M_2 a_M_3 n go x.1 x.2.1 x.2.2.1 x.2.2.2.1 x.2.2.2.2)) fuelN (n,(0:Int),(0:Int),(0:Int),(0:Int)) z5 (AI hz5 (AI (E4 I3 (R3 (AI (R3 TV) (R3 TV)))) (AI (fun _ _ h=>lZ h) (AI (fun m=>curI (fun i=>curI (fun c2_1=>curI (fun c2_2=>curI (fun c2_3=>fun c2_4 z q=>?_))))) ?_))))
 ·have q : f69_l1 a_M_0 a_M_1 a_M_2 a_M_3 n (loopF (fun go x=>f69_l1 a_M_0 a_M_1 a_M_2 a_M_3 n go x.1 x.2.1 x.2.2.1 x.2.2.2.1 x.2.2.2.2) m) i c2_1 c2_2 c2_3 c2_4 = some z := q
  unfold f69_l1 at q
  refine OL (OL (cI q (fun q=>?_) (fun q=>?_)))
  ·refine OL (OL ?_)
   obtain ⟨r6,hr6,q⟩ := bE q
   refine OL (AI f116_in (cV (cQ C116 (a_M_0,a_M_1,a_M_2,a_M_3,i) r6 [] false C116_holds hr6 rfl rfl (AI rfl (AI NH (R2 (AJ (AI TV (cI q (fun q=>?_) (fun q=>?_))))))))))
   ·refine AI (by decide) (AI (by decide) (gI q (fun q=>?_)))
    refine AI (fun hk7=>?_) ?_
    ·have q := pickE q hk7
     dsimp only [nthO] at q
     refine AI (by decide) (gI q (fun q=>?_))
     refine AI (rE hk7 (by decide)) (AI (fun _=>?_) (AI (fun h=>absurd (hk7.symm.trans h) (by decide)) (AI (fun h=>absurd (hk7.symm.trans h) (by decide)) (AI (fun h=>absurd (hk7.symm.trans h) (by decide)) TV))))
     refine OL (EI ((i64.wrap (i + (1:Int))),(bitsOf IntKind.u64 (fun p q=>p ||| q) c2_1 (u64.wrap ((1:Int) * 2 ^ min (Int.toNat (u64.wrap (Int.tmod (i64.wrap (i - n)) (64:Int)))) u64.bits))),c2_2,c2_3,c2_4) (AI q (E4 I3 (R3 (AI (R3 TV) (R3 TV))))))
    refine AI (fun hk7=>?_) ?_
    ·have q := pickE q hk7
     dsimp only [nthO] at q
     refine AI (by decide) (gI q (fun q=>?_))
     refine AI (rE hk7 (by decide)) (AI (fun h=>absurd (hk7.symm.trans h) (by decide)) ?_)
     refine AI (fun _=>?_) (AI (fun h=>absurd (hk7.symm.trans h) (by decide)) (AI (fun h=>absurd (hk7.symm.trans h) (by decide)) TV))
     refine OL (EI ((i64.wrap (i + (1:Int))),c2_1,(bitsOf IntKind.u64 (fun p q=>p ||| q) c2_2 (u64.wrap ((1:Int) * 2 ^ min (Int.toNat (u64.wrap (Int.tmod (i64.wrap (i - n)) (64:Int)))) u64.bits))),c2_3,c2_4) (AI q (E4 I3 (R3 (AI (R3 TV) (R3 TV))))))
    refine AI (fun hk7=>?_) ?_
    ·have q := pickE q hk7
     dsimp only [nthO] at q
     refine AI (by decide) (gI q (fun q=>?_))
     refine AI (rE hk7 (by decide)) (AI (fun h=>absurd (hk7.symm.trans h) (by decide)) ?_)
     refine AI (fun h=>absurd (hk7.symm.trans h) (by decide)) ?_
     refine AI (fun _=>?_) (AI (fun h=>absurd (hk7.symm.trans h) (by decide)) TV)
     refine OL (EI ((i64.wrap (i + (1:Int))),c2_1,c2_2,(bitsOf IntKind.u64 (fun p q=>p ||| q) c2_3 (u64.wrap ((1:Int) * 2 ^ min (Int.toNat (u64.wrap (Int.tmod (i64.wrap (i - n)) (64:Int)))) u64.bits))),c2_4) (AI q (E4 I3 (R3 (AI (R3 TV) (R3 TV))))))
    refine AI (fun hk7=>?_) TV
    have q := pickE q hk7
    dsimp only [nthO] at q
    refine AI (by decide) (gI q (fun q=>?_))
    refine AI (rE hk7 (by decide)) (AI (fun h=>absurd (hk7.symm.trans h) (by decide)) ?_)
    refine AI (fun h=>absurd (hk7.symm.trans h) (by decide)) ?_
    refine AI (fun h=>absurd (hk7.symm.trans h) (by decide)) ?_
    refine AI (fun _=>?_) TV
    refine OL (EI ((i64.wrap (i + (1:Int))),c2_1,c2_2,c2_3,(bitsOf IntKind.u64 (fun p q=>p ||| q) c2_4 (u64.wrap ((1:Int) * 2 ^ min (Int.toNat (u64.wrap (Int.tmod (i64.wrap (i - n)) (64:Int)))) u64.bits)))) (AI q (E4 I3 (R3 (AI (R3 TV) (R3 TV))))))
   refine EI ((i64.wrap (i + (1:Int))),c2_1,c2_2,c2_3,c2_4) (AI q (E4 I3 (R3 (AI (R3 TV) (R3 TV)))))
  cases sE q
  refine E4 I3 (R2 (AI (R3 TV) (R3 TV)))
 refine AI ?_ TV
 obtain ⟨z9,hz9,q⟩ := bE q
 refine OQ ⟨Sum.elim (fun z9a=>[(0,⟨[(1,.dat T2 n),(2,P0 0 0),(4,P0 1 0),(5,P0 2 0)],[(0,.cells [(.d .bool a_Neg),(.d T4 a_M_0),(.d T4 a_M_1),(.d T4 a_M_2),(.d T4 a_M_3)]),(1,.cells [(.d .bool false),(.d T4 (0:Int)),(.d T4 (0:Int)),(.d T4 (0:Int)),(.d T4 (0:Int))]),(2,.cells [(.d .bool a_Neg),(.d T4 z5.1),(.d T4 z5.2.1),(.d T4 z5.2.2.1),(.d T4 z5.2.2.2)])],3⟩)]) (fun z9b=>[(1,⟨[(4,P0 0 0)],[(0,.cells [(.d .bool a_Neg),(.d T4 z5.1),(.d T4 z5.2.1),(.d T4 z5.2.2.1),(.d T4 z5.2.2.2)])],1⟩)]) z9,?_,?_⟩
 ·have q := hz9
  clear hz9
  unfold f69_j2 at q
  refine OL (cN q (fun q=>?_) (fun q=>?_))
  ·refine gY (gY (gY (gY ?_)))
   obtain ⟨r10,hr10,q⟩ := bE q
   refine OL (AI f116_in (cV (cQ C116 (a_M_0,a_M_1,a_M_2,a_M_3,(i64.wrap (n - (1:Int)))) r10 [] false C116_holds hr10 rfl rfl (AI rfl (AI NH (R2 (AJ (AI TV (gY (cF (cI q (fun q=>?_) (fun q=>?_))))))))))))
   ·refine OL (OL ?_)
    cases sE q
    refine E4 [(0,some 1)] (AI rfl (AJ (AI rfl TV)))
   cases sE q
   refine E4 I3 (R2 (AI (R3 TV) (R3 TV)))
  refine gN (gN (gN (gN (gN (cT (cT (OL (OL ?_))))))))
  cases sE q
  refine E4 [(0,some 1)] (AI rfl (AJ (AI rfl TV)))
 rcases z9 with z9a | z9b
 ·dsimp only [sumF] at q
  refine AI (OL (AI (by decide) (AI (fun _=>?_) (AI (fun h=>absurd h (by decide)) (AI (fun h=>absurd h (by decide)) (AI (fun h=>absurd h (by decide)) TV)))))) TV
  refine OL (OL ?_)
  obtain ⟨z13,hz13,q⟩ := bE q
  refine lI (Bool×Int) Bool (fun x=>⟨[(1,.dat T2 n),(2,P0 0 0),(4,P0 1 0),(5,P0 2 0),(7,.dat .bool x.1),(8,.dat T2 x.2)],[(0,.cells [(.d .bool a_Neg),(.d T4 a_M_0),(.d T4 a_M_1),(.d T4 a_M_2),(.d T4 a_M_3)]),(1,.cells [(.d .bool false),(.d T4 (0:Int)),(.d T4 (0:Int)),(.d T4 (0:Int)),(.d T4 (0:Int))]),(2,.cells [(.d .bool a_Neg),(.d T4 z5.1),(.d T4 z5.2.1),(.d T4 z5.2.2.1),(.d T4 z5.2.2.2)])],3⟩) (fun z=>[(4,⟨[(4,P0 0 0),(5,P0 1 0),(7,.dat .bool z)],[(0,.cells [(.d .bool false),(.d T4 (0:Int)),(.d T4 (0:Int)),(.d T4 (0:Int)),(.d T4 (0:Int))]),(1,.cells [(.d .bool a_Neg),(.d T4 z5.1),(.d T4 z5.2.1),(.d T4 z5.2.2.1),(.d T4 z5.2.2.2)])],2⟩)]) (loopF (fun go x=>f69_l3 a_M_0 a_M_1 a_M_2 a_M_3 n go x.1 x.2)) fuelN (((bitsOf IntKind.u64 (fun p q=>p &&& q) z5.1 (1:Int)) == (1:Int)),(0:Int)) z13 (AI hz13 (AI (E4 I3 (R4 (AI (R3 TV) (R3 TV)))) (AI (fun _ _ h=>lZ h) (AI (fun m=>curI (fun more=>fun i z q=>?_)) ?_))))
  ·have q : f69_l3 a_M_0 a_M_1 a_M_2 a_M_3 n (loopF (fun go x=>f69_l3 a_M_0 a_M_1 a_M_2 a_M_3 n go x.1 x.2) m) more i = some z := q
   unfold f69_l3 at q
   refine OL (OL (cI q (fun q=>?_) (fun q=>?_)))
   ·refine OL (cN q (fun q=>?_) (fun q=>?_))
    ·refine gY (gY (gY ?_))
     obtain ⟨r14,hr14,q⟩ := bE q
     refine OL (AI f116_in (cV (cQ C116 (a_M_0,a_M_1,a_M_2,a_M_3,i) r14 [] false C116_holds hr14 rfl rfl (AI rfl (AI NH (R2 (AJ (AI TV (gY (cF (EI ((r14 == (1:Int)),(i64.wrap (i + (1:Int)))) (AI q (E4 I3 (R4 (AI (R3 TV) (R3 TV))))))))))))))))
    refine gN (gN (gN (gN (cT (EI (true,(i64.wrap (i + (1:Int)))) (AI q (E4 I3 (R4 (AI (R3 TV) (R3 TV))))))))))
   cases sE q
   refine E4 [(0,some 1),(1,some 2)] (R2 (AI (R2 TV) (R2 TV)))
  refine AI (OL (OL (cI q (fun q=>?_) (fun q=>?_)))) TV
  ·obtain ⟨r15,hr15,q⟩ := bE q
   refine OL (AI f117_in (cV (cQ C117 (z5.1,z5.2.1,z5.2.2.1,z5.2.2.2,(1:Int),(0:Int),(0:Int),(0:Int)) r15 [] false C117_holds hr15 rfl rfl (AI NH (R2 (AI (R2 TV) (AI TV (OL (OL (OL ?_))))))))))
   cases sE q
   refine AI rfl (E4 [] (AI rfl (AJ TV)))
  refine OL (OL ?_)
  cases sE q
  refine AI rfl (E4 [] (AI rfl (AJ TV)))
 dsimp only [sumF] at q
 refine AI ?_ TV
 cases sE q
 refine AI rfl (E4 [] (AI rfl (AJ TV)))
theorem C69_holds : HP C69 69 := hH Tryz.f69 (by kernel_rfl) rfl (fun x y q=>C69_vc x.1 x.2.1 x.2.2.1 x.2.2.2.1 x.2.2.2.2.1 x.2.2.2.2.2 y q)
theorem f69_in : InP 69 := inP (by kernel_rfl)
def f27 (a:Int) (b:Int) : Option Int :=
 bindF (f70 a b) fun r1 =>
 bindF (f69 r1.1 r1.2.1 r1.2.2.1 r1.2.2.2.1 r1.2.2.2.2 (32:Int)) fun r2 =>
 bindF (f60 r2.1 r2.2.1 r2.2.2.1 r2.2.2.2.1 r2.2.2.2.2) fun r3 =>
 some r3
def C27 : Con where
 X := Int×Int
 Y := Int
 e := 0
 args x := [.dat T2 x.1,.dat T2 x.2]
 hin x := []
 F x := f27 x.1 x.2
 ret y := [.dat T2 y]
 hout y := []
 nout := 0
theorem C27_vc (a:Int) (b:Int) (y:Int) (q : f27 a b = some y) : VC Tryz.f27 C27 (a,b) y := by
 unfold f27 at q
 refine OL (OL ?_)
 obtain ⟨r1,hr1,q⟩ := bE q
 refine OL (AI f70_in (cV (cQ C70 (a,b) r1 [] false C70_holds hr1 rfl rfl (R2 (K0 ?_)))))
 obtain ⟨r2,hr2,q⟩ := bE q
 refine OL (AI f69_in (cV (cQ C69 (r1.1,r1.2.1,r1.2.2.1,r1.2.2.2.1,r1.2.2.2.2,(32:Int)) r2 [] false C69_holds hr2 rfl rfl (AI rfl (AI NH (R2 (AJ (AI TV ?_))))))))
 obtain ⟨r3,hr3,q⟩ := bE q
 refine OL (AI f60_in (cV (cQ C60 (r2.1,r2.2.1,r2.2.2.1,r2.2.2.2.1,r2.2.2.2.2) r3 [] false C60_holds hr3 rfl rfl (AI NH (R2 (AJ (AI TV ?_)))))))
 cases sE q
 refine AI rfl (E4 [] (R2 (AI TV TV)))
theorem C27_holds : HP C27 27 := hH Tryz.f27 (by kernel_rfl) rfl (fun x y q=>C27_vc x.1 x.2 y q)
theorem f27_in : InP 27 := inP (by kernel_rfl)
def f9_l1 (k : LI) (go : (Int×Int×NL) → Option (Sum Unit (Int×NL))) (n:Int) (i:Int) (l1 : NL) : Option (Sum Unit (Int×NL)) :=
 bif (decide (i < (List.length k:Int))) then
 guardF (0 ≤ i ∧ i < (List.length k:Int)) <|
 bindF (f17 l1 (5:Int) n (-1:Int) (rd (0:Int) k i)) fun r8 =>
 bif (r8.2.1 != (0:Int)) then
 some (Sum.inl ())
 else
 go (r8.1,(i64.wrap (i + (1:Int))),r8.2.2)
 else
 some (Sum.inr (n,l1))
def f9_l2 (k : LI) (go : (Int×Int) → Option Int) (want:Int) (i:Int) : Option Int :=
 bif (decide (i ≥ (0:Int))) then
 guardF (0 ≤ i ∧ i < (List.length k:Int)) <|
 bindF (f27 want (rd (0:Int) k i)) fun r13 =>
 go (r13,(i64.wrap (i - (1:Int))))
 else
 some want
def f9 (x_:Int) (k : LI) : Option Bool :=
 bindF (f12) fun r1 =>
 bif (!r1) then
 some false
 else
 bif (decide ((List.length k:Int) > (20:Int))) then
 some true
 else
 bindF (f13) fun r2 =>
 bindF (f15 ([x_])) fun r3 =>
 bindF (f14 ([]) (r3.2,r3.1)) fun r4 =>
 bindF (loopF (fun go x=>f9_l1 k go x.1 x.2.1 x.2.2) fuelN (r4.1,(0:Int),r4.2.2)) fun z7 =>
 sumF z7 (fun z7a =>
 some false) (fun z7b =>
 bindF (f16 z7b.2 z7b.1) fun r9 =>
 bindF (loopF (fun go x=>f9_l2 k go x.1 x.2) fuelN ((4294967296:Int),(i64.wrap ((List.length k:Int) - (1:Int))))) fun z12 =>
 bif (r4.2.1 == (0:Int)) then
 bif (r9.1 == (0:Int)) then
 bif ((List.length r9.2.1:Int) == (i64.wrap ((List.length k:Int) + (1:Int)))) then
 guardF (0 ≤ (0:Int) ∧ (0:Int) < (List.length r9.2.1:Int)) <|
 guardF (0 ≤ (0:Int) ∧ (0:Int) < (List.length ((rd (Ty.z T3) r9.2.1 (0:Int)).2):Int)) <|
 some ((rd (0:Int) ((rd (Ty.z T3) r9.2.1 (0:Int)).2) (0:Int)) == z12)
 else
 some false
 else
 some false
 else
 some false)
def C9 : Con where
 X := Int×LI
 Y := Bool
 e := 0
 args x := [.dat T2 x.1,.dat T1 x.2]
 hin x := []
 F x := f9 x.1 x.2
 ret y := [.dat .bool y]
 hout y := []
 nout := 0
theorem C9_vc (x_:Int) (k : LI) (y : Bool) (q : f9 x_ k = some y) : VC Tryz.f9 C9 (x_,k) y := by
 unfold f9 at q
 refine OL (OL (OL ?_))
 obtain ⟨r1,hr1,q⟩ := bE q
 refine OL (AI f12_in (cV (cQ C12 () r1 [] false C12_holds hr1 rfl rfl (K0 (cI q (fun q=>?_) (fun q=>?_))))))
 ·cases sE q
  refine OL (AI rfl (E4 [] (R2 (AI TV TV))))
 refine OL (OL (cI q (fun q=>?_) (fun q=>?_)))
 ·cases sE q
  refine OL (AI rfl (E4 [] (R2 (AI TV TV))))
 refine OL ?_
 obtain ⟨r2,hr2,q⟩ := bE q
 refine OL (AI f13_in (cV (cQ C13 () r2 [] false C13_holds hr2 rfl rfl (K0 (OL (OL ?_))))))
 obtain ⟨r3,hr3,q⟩ := bE q
 refine OL (AI f15_in (cV (cQ C15 [x_] r3 [] false C15_holds hr3 rfl rfl (AI rfl (K0 ?_)))))
 obtain ⟨r4,hr4,q⟩ := bE q
 refine OL (AI f14_in (cV (cQ C14 ([],(r3.2,r3.1)) r4 I2 false C14_holds hr4 rfl rfl (R2 (AI NH (R2 (AJ (AI (R2 TV) (OL (OL ?_))))))))))
 obtain ⟨z7,hz7,q⟩ := bE q
 refine lI (Int×Int×NL) (Sum Unit (Int×NL)) (fun x=>⟨[(1,.dat T1 k),(5,P0 0 0),(6,.dat T2 x.1),(7,.dat T2 r4.2.1),(8,.dat T2 x.2.1)],[(0,.cells [(.osl 1)]),(1,.arr 74 T0 x.2.2)],2⟩) (fun z=>Sum.elim (fun za=>[(1,⟨[(4,.dat .bool false)],[],0⟩)]) (fun zb=>[(2,⟨[(1,.dat T1 k),(5,P0 0 0),(6,.dat T2 zb.1),(7,.dat T2 r4.2.1)],[(0,.cells [(.osl 1)]),(1,.arr 74 T0 zb.2)],2⟩)]) z) (loopF (fun go x=>f9_l1 k go x.1 x.2.1 x.2.2)) fuelN (r4.1,(0:Int),r4.2.2) z7 (AI hz7 (AI (E4 [(0,some 0),(1,some 6)] (R5 (AJ (R2 TV)))) (AI (fun _ _ h=>lZ h) (AI (fun m=>curI (fun n=>curI (fun i=>fun l1 z q=>?_))) ?_))))
 ·have q : f9_l1 k (loopF (fun go x=>f9_l1 k go x.1 x.2.1 x.2.2) m) n i l1 = some z := q
  unfold f9_l1 at q
  refine OL (OL (cI q (fun q=>?_) (fun q=>?_)))
  ·refine OL (OL (gI q (fun q=>?_)))
   obtain ⟨r8,hr8,q⟩ := bE q
   have hr8 : C17.F (l1,(5:Int),n,(-1:Int),(rd (0:Int) k i)) = some r8 := hr8
   refine OL (AI f17_in (cV (cQ C17 _ r8 I2 false C17_holds hr8 rfl rfl (R4 (AI NH (R2 (AJ (AI (R2 TV) (OL (OL (cI q (fun q=>?_) (fun q=>?_))))))))))))
   ·cases sE q
    refine OL (E4 [] (R2 (AI TV TV)))
   refine EI (r8.1,(i64.wrap (i + (1:Int))),r8.2.2) (AI q (E4 [(0,some 0),(1,some 4)] (R5 (AJ (R2 TV)))))
  cases sE q
  refine E4 I2 (R4 (AJ (R2 TV)))
 rcases z7 with z7a | z7b
 ·dsimp only [sumF] at q
  refine AI ?_ TV
  cases sE q
  refine AI rfl (E4 [] (R2 (AI TV TV)))
 dsimp only [sumF] at q
 refine AI (OL ?_) TV
 obtain ⟨r9,hr9,q⟩ := bE q
 refine OL (AI f16_in (cV (cQ C16 (z7b.2,z7b.1) r9 I2 false C16_holds hr9 rfl rfl (AI rfl (AI NH (R2 (AJ (AI (R2 TV) (OL (OL (OL ?_)))))))))))
 obtain ⟨z12,hz12,q⟩ := bE q
 refine lI (Int×Int) Int (fun x=>⟨[(1,.dat T1 k),(7,.dat T2 r4.2.1),(11,O0 0),(12,.dat T2 r9.1),(13,.dat T2 x.1),(14,.dat T2 x.2)],[(0,.arr 31 T3 r9.2.1)],1⟩) (fun z=>[(4,⟨[(1,.dat T1 k),(7,.dat T2 r4.2.1),(11,O0 0),(12,.dat T2 r9.1),(13,.dat T2 z)],[(0,.arr 31 T3 r9.2.1)],1⟩)]) (loopF (fun go x=>f9_l2 k go x.1 x.2)) fuelN ((4294967296:Int),(i64.wrap ((List.length k:Int) - (1:Int)))) z12 (AI hz12 (AI (E4 [(0,some 4)] (R6 (AJ (AI rfl TV)))) (AI (fun _ _ h=>lZ h) (AI (fun m=>curI (fun want=>fun i z q=>?_)) ?_))))
 ·have q : f9_l2 k (loopF (fun go x=>f9_l2 k go x.1 x.2) m) want i = some z := q
  unfold f9_l2 at q
  refine OL (OL (cI q (fun q=>?_) (fun q=>?_)))
  ·refine OL (gI q (fun q=>?_))
   obtain ⟨r13,hr13,q⟩ := bE q
   refine OL (AI f27_in (cV (cQ C27 (want,(rd (0:Int) k i)) r13 [] false C27_holds hr13 rfl rfl (R2 (K0 (EI (r13,(i64.wrap (i - (1:Int)))) (AI q (E4 [(0,some 0)] (R6 (AJ (AI rfl TV)))))))))))
  cases sE q
  refine E4 [(0,some 0)] (R5 (AJ (AI rfl TV)))
 refine AI (OL (cI q (fun q=>?_) (fun q=>?_))) TV
 ·refine gX (cT (cI q (fun q=>?_) (fun q=>?_)))
  ·refine gX (gX (gX (gX (gX (cT (cI q (fun q=>?_) (fun q=>?_)))))))
   ·refine gX (gI q (fun q=>?_))
    refine gX (gX (gX (gI q (fun q=>?_))))
    refine gX (gX (gX (cT ?_)))
    cases sE q
    refine AI rfl (E4 [] (R2 (AI TV TV)))
   refine gM (gM (gM (gM (gM (gM (gM (cF ?_)))))))
   cases sE q
   refine AI rfl (E4 [] (R2 (AI TV TV)))
  refine gM (gM (gM (gM (gM (cF (gM (gM (gM (gM (gM (gM (gM (gM (cF ?_))))))))))))))
  cases sE q
  refine AI rfl (E4 [] (R2 (AI TV TV)))
 refine gM (cF (gM (gM (gM (gM (gM (gM (cF (gM (gM (gM (gM (gM (gM (gM (gM (cF ?_)))))))))))))))))
 cases sE q
 refine AI rfl (E4 [] (R2 (AI TV TV)))
theorem C9_holds : HP C9 9 := hH Tryz.f9 (by kernel_rfl) rfl (fun x y q=>C9_vc x.1 x.2 y q)
theorem f9_in : InP 9 := inP (by kernel_rfl)
end Go.Proofs
