import Derived.Test.YtoicgngppmpapaaGreatLossSaysS2
set_option linter.unusedVariables false
set_option maxRecDepth 100000
set_option maxHeartbeats 8000000
namespace Go.Proofs
open Go.AM
open IntKind (i64 u64 i32 u32 i16 u16 i8 u8)
def f180_l1 (a_M_0:Int) (a_M_1:Int) (a_M_2:Int) (a_M_3:Int) (n:Int) (go : (Int×Int×Int×Int×Int) → Option (Int×Int×Int×Int)) (i:Int) (c2_1:Int) (c2_2:Int) (c2_3:Int) (c2_4:Int) : Option (Int×Int×Int×Int) :=
 bif (decide (i < (256:Int))) then
 bindF (f181 a_M_0 a_M_1 a_M_2 a_M_3 i) fun r6 =>
 bif (r6 == (1:Int)) then
 guardF (0 ≤ (i64.wrap (Int.tdiv (i64.wrap (i - n)) (64:Int))) ∧ (i64.wrap (Int.tdiv (i64.wrap (i - n)) (64:Int))) < (4:Int)) <|
 pickF (i64.wrap (Int.tdiv (i64.wrap (i - n)) (64:Int)))
 [(guardF (0 ≤ (u64.wrap (Int.tmod (i64.wrap (i - n)) (64:Int)))) <|
 go ((i64.wrap (i + (1:Int))),(bitsOf IntKind.u64 (fun p q=>p ||| q) c2_1 (u64.wrap ((1:Int) * 2 ^ min (Int.toNat (u64.wrap (Int.tmod (i64.wrap (i - n)) (64:Int)))) u64.bits))),c2_2,c2_3,c2_4)),
 (guardF (0 ≤ (u64.wrap (Int.tmod (i64.wrap (i - n)) (64:Int)))) <|
 go ((i64.wrap (i + (1:Int))),c2_1,(bitsOf IntKind.u64 (fun p q=>p ||| q) c2_2 (u64.wrap ((1:Int) * 2 ^ min (Int.toNat (u64.wrap (Int.tmod (i64.wrap (i - n)) (64:Int)))) u64.bits))),c2_3,c2_4)),
 (guardF (0 ≤ (u64.wrap (Int.tmod (i64.wrap (i - n)) (64:Int)))) <|
 go ((i64.wrap (i + (1:Int))),c2_1,c2_2,(bitsOf IntKind.u64 (fun p q=>p ||| q) c2_3 (u64.wrap ((1:Int) * 2 ^ min (Int.toNat (u64.wrap (Int.tmod (i64.wrap (i - n)) (64:Int)))) u64.bits))),c2_4)),
 (guardF (0 ≤ (u64.wrap (Int.tmod (i64.wrap (i - n)) (64:Int)))) <|
 go ((i64.wrap (i + (1:Int))),c2_1,c2_2,c2_3,(bitsOf IntKind.u64 (fun p q=>p ||| q) c2_4 (u64.wrap ((1:Int) * 2 ^ min (Int.toNat (u64.wrap (Int.tmod (i64.wrap (i - n)) (64:Int)))) u64.bits)))))]
 else
 go ((i64.wrap (i + (1:Int))),c2_1,c2_2,c2_3,c2_4)
 else
 some (c2_1,c2_2,c2_3,c2_4)
def f180_j2 (a_M_0:Int) (a_M_1:Int) (a_M_2:Int) (a_M_3:Int) (n:Int) : Option (Sum Unit Unit) :=
 bif (n == (0:Int)) then
 some (Sum.inr ())
 else
 bindF (f181 a_M_0 a_M_1 a_M_2 a_M_3 (i64.wrap (n - (1:Int)))) fun r10 =>
 bif (r10 == (0:Int)) then
 some (Sum.inr ())
 else
 some (Sum.inl ())
def f180_l3 (a_M_0:Int) (a_M_1:Int) (a_M_2:Int) (a_M_3:Int) (n:Int) (go : (Bool×Int) → Option Bool) (more : Bool) (i:Int) : Option Bool :=
 bif (decide (i < (i64.wrap (n - (1:Int))))) then
 bif more then
 go (true,(i64.wrap (i + (1:Int))))
 else
 bindF (f181 a_M_0 a_M_1 a_M_2 a_M_3 i) fun r14 =>
 go ((r14 == (1:Int)),(i64.wrap (i + (1:Int))))
 else
 some more
def f180 (a_Neg : Bool) (a_M_0:Int) (a_M_1:Int) (a_M_2:Int) (a_M_3:Int) (n:Int) : Option (Bool×Int×Int×Int×Int) :=
 bindF (loopF (fun go x=>f180_l1 a_M_0 a_M_1 a_M_2 a_M_3 n go x.1 x.2.1 x.2.2.1 x.2.2.2.1 x.2.2.2.2) fuelN (n,(0:Int),(0:Int),(0:Int),(0:Int))) fun z5 =>
 bindF (f180_j2 a_M_0 a_M_1 a_M_2 a_M_3 n) fun z9 =>
 sumF z9 (fun z9a =>
 bindF (loopF (fun go x=>f180_l3 a_M_0 a_M_1 a_M_2 a_M_3 n go x.1 x.2) fuelN (((bitsOf IntKind.u64 (fun p q=>p &&& q) z5.1 (1:Int)) == (1:Int)),(0:Int))) fun z13 =>
 bif z13 then
 bindF (f182 z5.1 z5.2.1 z5.2.2.1 z5.2.2.2 (1:Int) (0:Int) (0:Int) (0:Int)) fun r15 =>
 some (a_Neg,r15.1,r15.2.1,r15.2.2.1,r15.2.2.2)
 else
 some (a_Neg,z5.1,z5.2.1,z5.2.2.1,z5.2.2.2)) (fun z9b =>
 some (a_Neg,z5.1,z5.2.1,z5.2.2.1,z5.2.2.2))
def C180 : Con where
 X := Bool×Int×Int×Int×Int×Int
 Y := Bool×Int×Int×Int×Int
 e := 0
 args x := [.raw true [(.d .bool x.1),(.d T4 x.2.1),(.d T4 x.2.2.1),(.d T4 x.2.2.2.1),(.d T4 x.2.2.2.2.1)],.dat T2 x.2.2.2.2.2]
 hin x := []
 F x := f180 x.1 x.2.1 x.2.2.1 x.2.2.2.1 x.2.2.2.2.1 x.2.2.2.2.2
 ret y := [.raw true [(.d .bool y.1),(.d T4 y.2.1),(.d T4 y.2.2.1),(.d T4 y.2.2.2.1),(.d T4 y.2.2.2.2)]]
 hout y := []
 nout := 0
theorem C180_vc (a_Neg : Bool) (a_M_0:Int) (a_M_1:Int) (a_M_2:Int) (a_M_3:Int) (n:Int) (y : Bool×Int×Int×Int×Int) (q : f180 a_Neg a_M_0 a_M_1 a_M_2 a_M_3 n = some y) : VC Tryz.f180 C180 (a_Neg,a_M_0,a_M_1,a_M_2,a_M_3,n) y := by
 unfold f180 at q
 refine OL (OL (OL (OL (OL ?_))))
 obtain ⟨z5,hz5,q⟩ := bE q
 refine lI (Int×Int×Int×Int×Int) (Int×Int×Int×Int) (fun x=>⟨[(1,.dat T2 n),(2,P0 0 0),(4,P0 1 0),(5,P0 2 0),(6,.dat T2 x.1)],[(0,.cells [(.d .bool a_Neg),(.d T4 a_M_0),(.d T4 a_M_1),(.d T4 a_M_2),(.d T4 a_M_3)]),(1,.cells [(.d .bool false),(.d T4 (0:Int)),(.d T4 (0:Int)),(.d T4 (0:Int)),(.d T4 (0:Int))]),(2,.cells [(.d .bool a_Neg),(.d T4 x.2.1),(.d T4 x.2.2.1),(.d T4 x.2.2.2.1),(.d T4 x.2.2.2.2)])],3⟩) (fun z=>[(2,⟨[(1,.dat T2 n),(2,P0 0 0),(4,P0 1 0),(5,P0 2 0)],[(0,.cells [(.d .bool a_Neg),(.d T4 a_M_0),(.d T4 a_M_1),(.d T4 a_M_2),(.d T4 a_M_3)]),(1,.cells [(.d .bool false),(.d T4 (0:Int)),(.d T4 (0:Int)),(.d T4 (0:Int)),(.d T4 (0:Int))]),(2,.cells [(.d .bool a_Neg),(.d T4 z.1),(.d T4 z.2.1),(.d T4 z.2.2.1),(.d T4 z.2.2.2)])],3⟩)]) (loopF (fun go x=>f180_l1 a_M_0 a_M_1 a_M_2 a_M_3 n go x.1 x.2.1 x.2.2.1 x.2.2.2.1 x.2.2.2.2)) fuelN (n,(0:Int),(0:Int),(0:Int),(0:Int)) z5 (AI hz5 (AI (E4 I3 (R3 (AI (R3 TV) (R3 TV)))) (AI (fun _ _ h=>lZ h) (AI (fun m=>curI (fun i=>curI (fun c2_1=>curI (fun c2_2=>curI (fun c2_3=>fun c2_4 z q=>?_))))) ?_))))
 ·have q : f180_l1 a_M_0 a_M_1 a_M_2 a_M_3 n (loopF (fun go x=>f180_l1 a_M_0 a_M_1 a_M_2 a_M_3 n go x.1 x.2.1 x.2.2.1 x.2.2.2.1 x.2.2.2.2) m) i c2_1 c2_2 c2_3 c2_4 = some z := q
  unfold f180_l1 at q
  refine OL (OL (cI q (fun q=>?_) (fun q=>?_)))
  ·refine OL (OL ?_)
   obtain ⟨r6,hr6,q⟩ := bE q
   refine OL (AI f181_in (cV (cQ C181 (a_M_0,a_M_1,a_M_2,a_M_3,i) r6 [] false C181_holds hr6 rfl rfl (AI rfl (AI NH (R2 (AJ (AI TV (cI q (fun q=>?_) (fun q=>?_))))))))))
   ·refine AI (by decide) (AI (by decide) (gI q (fun q=>?_)))
    refine AI (fun hk7=>?_) ?_
    ·have q := pickE q hk7
     dsimp only [nthO] at q
     refine AI (by decide) (gI q (fun q=>?_))
     refine AI (rE hk7 (by decide)) (AI (fun _=>?_) (AI (fun h=>absurd (hk7.symm.trans h) (by decide)) (AI (fun h=>absurd (hk7.symm.trans h) (by decide)) (AI (fun h=>absurd (hk7.symm.trans h) (by decide)) TV))))
     refine OL (EI ((i64.wrap (i + (1:Int))),(bitsOf IntKind.u64 (fun p q=>p ||| q) c2_1 (u64.wrap ((1:Int) * 2 ^ min (Int.toNat (u64.wrap (Int.tmod (i64.wrap (i - n)) (64:Int)))) u64.bits))),c2_2,c2_3,c2_4) (AI q (E4 I3 (R3 (AI (R3 TV) (R3 TV))))))
    refine AI (fun hk7=>?_) ?_
    ·have q := pickE q hk7
     dsimp only [nthO] at q
     refine AI (by decide) (gI q (fun q=>?_))
     refine AI (rE hk7 (by decide)) (AI (fun h=>absurd (hk7.symm.trans h) (by decide)) ?_)
     refine AI (fun _=>?_) (AI (fun h=>absurd (hk7.symm.trans h) (by decide)) (AI (fun h=>absurd (hk7.symm.trans h) (by decide)) TV))
     refine OL (EI ((i64.wrap (i + (1:Int))),c2_1,(bitsOf IntKind.u64 (fun p q=>p ||| q) c2_2 (u64.wrap ((1:Int) * 2 ^ min (Int.toNat (u64.wrap (Int.tmod (i64.wrap (i - n)) (64:Int)))) u64.bits))),c2_3,c2_4) (AI q (E4 I3 (R3 (AI (R3 TV) (R3 TV))))))
    refine AI (fun hk7=>?_) ?_
    ·have q := pickE q hk7
     dsimp only [nthO] at q
     refine AI (by decide) (gI q (fun q=>?_))
     refine AI (rE hk7 (by decide)) (AI (fun h=>absurd (hk7.symm.trans h) (by decide)) ?_)
     refine AI (fun h=>absurd (hk7.symm.trans h) (by decide)) ?_
     refine AI (fun _=>?_) (AI (fun h=>absurd (hk7.symm.trans h) (by decide)) TV)
     refine OL (EI ((i64.wrap (i + (1:Int))),c2_1,c2_2,(bitsOf IntKind.u64 (fun p q=>p ||| q) c2_3 (u64.wrap ((1:Int) * 2 ^ min (Int.toNat (u64.wrap (Int.tmod (i64.wrap (i - n)) (64:Int)))) u64.bits))),c2_4) (AI q (E4 I3 (R3 (AI (R3 TV) (R3 TV))))))
    refine AI (fun hk7=>?_) TV
    have q := pickE q hk7
    dsimp only [nthO] at q
    refine AI (by decide) (gI q (fun q=>?_))
    refine AI (rE hk7 (by decide)) (AI (fun h=>absurd (hk7.symm.trans h) (by decide)) ?_)
    refine AI (fun h=>absurd (hk7.symm.trans h) (by decide)) ?_
    refine AI (fun h=>absurd (hk7.symm.trans h) (by decide)) ?_
    refine AI (fun _=>?_) TV
    refine OL (EI ((i64.wrap (i + (1:Int))),c2_1,c2_2,c2_3,(bitsOf IntKind.u64 (fun p q=>p ||| q) c2_4 (u64.wrap ((1:Int) * 2 ^ min (Int.toNat (u64.wrap (Int.tmod (i64.wrap (i - n)) (64:Int)))) u64.bits)))) (AI q (E4 I3 (R3 (AI (R3 TV) (R3 TV))))))
   refine EI ((i64.wrap (i + (1:Int))),c2_1,c2_2,c2_3,c2_4) (AI q (E4 I3 (R3 (AI (R3 TV) (R3 TV)))))
  cases sE q
  refine E4 I3 (R2 (AI (R3 TV) (R3 TV)))
 refine AI ?_ TV
 obtain ⟨z9,hz9,q⟩ := bE q
 refine OQ ⟨Sum.elim (fun z9a=>[(0,⟨[(1,.dat T2 n),(2,P0 0 0),(4,P0 1 0),(5,P0 2 0)],[(0,.cells [(.d .bool a_Neg),(.d T4 a_M_0),(.d T4 a_M_1),(.d T4 a_M_2),(.d T4 a_M_3)]),(1,.cells [(.d .bool false),(.d T4 (0:Int)),(.d T4 (0:Int)),(.d T4 (0:Int)),(.d T4 (0:Int))]),(2,.cells [(.d .bool a_Neg),(.d T4 z5.1),(.d T4 z5.2.1),(.d T4 z5.2.2.1),(.d T4 z5.2.2.2)])],3⟩)]) (fun z9b=>[(1,⟨[(4,P0 0 0)],[(0,.cells [(.d .bool a_Neg),(.d T4 z5.1),(.d T4 z5.2.1),(.d T4 z5.2.2.1),(.d T4 z5.2.2.2)])],1⟩)]) z9,?_,?_⟩
 ·have q := hz9
  clear hz9
  unfold f180_j2 at q
  refine OL (cN q (fun q=>?_) (fun q=>?_))
  ·refine gY (gY (gY (gY ?_)))
   obtain ⟨r10,hr10,q⟩ := bE q
   refine OL (AI f181_in (cV (cQ C181 (a_M_0,a_M_1,a_M_2,a_M_3,(i64.wrap (n - (1:Int)))) r10 [] false C181_holds hr10 rfl rfl (AI rfl (AI NH (R2 (AJ (AI TV (gY (cF (cI q (fun q=>?_) (fun q=>?_))))))))))))
   ·refine OL (OL ?_)
    cases sE q
    refine E4 [(0,some 1)] (AI rfl (AJ (AI rfl TV)))
   cases sE q
   refine E4 I3 (R2 (AI (R3 TV) (R3 TV)))
  refine gN (gN (gN (gN (gN (cT (cT (OL (OL ?_))))))))
  cases sE q
  refine E4 [(0,some 1)] (AI rfl (AJ (AI rfl TV)))
 rcases z9 with z9a | z9b
 ·dsimp only [sumF] at q
  refine AI (OL (AI (by decide) (AI (fun _=>?_) (AI (fun h=>absurd h (by decide)) (AI (fun h=>absurd h (by decide)) (AI (fun h=>absurd h (by decide)) TV)))))) TV
  refine OL (OL ?_)
  obtain ⟨z13,hz13,q⟩ := bE q
  refine lI (Bool×Int) Bool (fun x=>⟨[(1,.dat T2 n),(2,P0 0 0),(4,P0 1 0),(5,P0 2 0),(7,.dat .bool x.1),(8,.dat T2 x.2)],[(0,.cells [(.d .bool a_Neg),(.d T4 a_M_0),(.d T4 a_M_1),(.d T4 a_M_2),(.d T4 a_M_3)]),(1,.cells [(.d .bool false),(.d T4 (0:Int)),(.d T4 (0:Int)),(.d T4 (0:Int)),(.d T4 (0:Int))]),(2,.cells [(.d .bool a_Neg),(.d T4 z5.1),(.d T4 z5.2.1),(.d T4 z5.2.2.1),(.d T4 z5.2.2.2)])],3⟩) (fun z=>[(4,⟨[(4,P0 0 0),(5,P0 1 0),(7,.dat .bool z)],[(0,.cells [(.d .bool false),(.d T4 (0:Int)),(.d T4 (0:Int)),(.d T4 (0:Int)),(.d T4 (0:Int))]),(1,.cells [(.d .bool a_Neg),(.d T4 z5.1),(.d T4 z5.2.1),(.d T4 z5.2.2.1),(.d T4 z5.2.2.2)])],2⟩)]) (loopF (fun go x=>f180_l3 a_M_0 a_M_1 a_M_2 a_M_3 n go x.1 x.2)) fuelN (((bitsOf IntKind.u64 (fun p q=>p &&& q) z5.1 (1:Int)) == (1:Int)),(0:Int)) z13 (AI hz13 (AI (E4 I3 (R4 (AI (R3 TV) (R3 TV)))) (AI (fun _ _ h=>lZ h) (AI (fun m=>curI (fun more=>fun i z q=>?_)) ?_))))
  ·have q : f180_l3 a_M_0 a_M_1 a_M_2 a_M_3 n (loopF (fun go x=>f180_l3 a_M_0 a_M_1 a_M_2 a_M_3 n go x.1 x.2) m) more i = some z := q
   unfold f180_l3 at q
   refine OL (OL (cI q (fun q=>?_) (fun q=>?_)))
   ·refine OL (cN q (fun q=>?_) (fun q=>?_))
    ·refine gY (gY (gY ?_))
     obtain ⟨r14,hr14,q⟩ := bE q
     refine OL (AI f181_in (cV (cQ C181 (a_M_0,a_M_1,a_M_2,a_M_3,i) r14 [] false C181_holds hr14 rfl rfl (AI rfl (AI NH (R2 (AJ (AI TV (gY (cF (EI ((r14 == (1:Int)),(i64.wrap (i + (1:Int)))) (AI q (E4 I3 (R4 (AI (R3 TV) (R3 TV))))))))))))))))
    refine gN (gN (gN (gN (cT (EI (true,(i64.wrap (i + (1:Int)))) (AI q (E4 I3 (R4 (AI (R3 TV) (R3 TV))))))))))
   cases sE q
   refine E4 [(0,some 1),(1,some 2)] (R2 (AI (R2 TV) (R2 TV)))
  refine AI (OL (OL (cI q (fun q=>?_) (fun q=>?_)))) TV
  ·obtain ⟨r15,hr15,q⟩ := bE q
   refine OL (AI f182_in (cV (cQ C182 (z5.1,z5.2.1,z5.2.2.1,z5.2.2.2,(1:Int),(0:Int),(0:Int),(0:Int)) r15 [] false C182_holds hr15 rfl rfl (AI NH (R2 (AI (R2 TV) (AI TV (OL (OL (OL ?_))))))))))
   cases sE q
   refine AI rfl (E4 [] (AI rfl (AJ TV)))
  refine OL (OL ?_)
  cases sE q
  refine AI rfl (E4 [] (AI rfl (AJ TV)))
 dsimp only [sumF] at q
 refine AI ?_ TV
 cases sE q
 refine AI rfl (E4 [] (AI rfl (AJ TV)))
theorem C180_holds : HP C180 180 := hH Tryz.f180 (by kernel_rfl) rfl (fun x y q=>C180_vc x.1 x.2.1 x.2.2.1 x.2.2.2.1 x.2.2.2.2.1 x.2.2.2.2.2 y q)
theorem f180_in : InP 180 := inP (by kernel_rfl)
def f131 (a:Int) (b:Int) : Option Int :=
 bindF (f179 a b) fun r1 =>
 bindF (f180 r1.1 r1.2.1 r1.2.2.1 r1.2.2.2.1 r1.2.2.2.2 (32:Int)) fun r2 =>
 bindF (f120 r2.1 r2.2.1 r2.2.2.1 r2.2.2.2.1 r2.2.2.2.2) fun r3 =>
 some r3
def C131 : Con where
 X := Int×Int
 Y := Int
 e := 0
 args x := [.dat T2 x.1,.dat T2 x.2]
 hin x := []
 F x := f131 x.1 x.2
 ret y := [.dat T2 y]
 hout y := []
 nout := 0
theorem C131_vc (a:Int) (b:Int) (y:Int) (q : f131 a b = some y) : VC Tryz.f131 C131 (a,b) y := by
 unfold f131 at q
 refine OL (OL ?_)
 obtain ⟨r1,hr1,q⟩ := bE q
 refine OL (AI f179_in (cV (cQ C179 (a,b) r1 [] false C179_holds hr1 rfl rfl (R2 (K0 ?_)))))
 obtain ⟨r2,hr2,q⟩ := bE q
 refine OL (AI f180_in (cV (cQ C180 (r1.1,r1.2.1,r1.2.2.1,r1.2.2.2.1,r1.2.2.2.2,(32:Int)) r2 [] false C180_holds hr2 rfl rfl (AI rfl (AI NH (R2 (AJ (AI TV ?_))))))))
 obtain ⟨r3,hr3,q⟩ := bE q
 refine OL (AI f120_in (cV (cQ C120 (r2.1,r2.2.1,r2.2.2.1,r2.2.2.2.1,r2.2.2.2.2) r3 [] false C120_holds hr3 rfl rfl (AI NH (R2 (AJ (AI TV ?_)))))))
 cases sE q
 refine AI rfl (E4 [] (R2 (AI TV TV)))
theorem C131_holds : HP C131 131 := hH Tryz.f131 (by kernel_rfl) rfl (fun x y q=>C131_vc x.1 x.2 y q)
theorem f131_in : InP 131 := inP (by kernel_rfl)
def f77_j3 (a : LI×LI) (b : LI×LI) : Option Bool :=
 bindF (f62 (a.1,a.2)) fun r9 =>
 bif (!r9) then
 some true
 else
 bindF (f62 (b.1,b.2)) fun r10 =>
 some (!r10)
def f77_j2 (a : LI×LI) (b : LI×LI) : Option (Sum Unit Unit) :=
 bindF (f77_j3 a b) fun z8 =>
 bif z8 then
 some (Sum.inr ())
 else
 some (Sum.inl ())
def f77_l4 (op:Int) (a : LI×LI) (b : LI×LI) (r11 : Int×LI) (go : (Int×LI) → Option LI) (i:Int) (l6 : LI) : Option LI :=
 bif (decide (i < (List.length l6:Int))) then
 bindF (f128 a.1 r11.2 i) fun r18 =>
 bindF (f128 b.1 r11.2 i) fun r19 =>
 bif (op == (0:Int)) then
 guardF (0 ≤ r18.1 ∧ r18.1 < (List.length a.2:Int)) <|
 guardF (0 ≤ r19.1 ∧ r19.1 < (List.length b.2:Int)) <|
 bindF (f129 (rd (0:Int) a.2 r18.1) (rd (0:Int) b.2 r19.1)) fun q15_13 =>
 guardF (0 ≤ i ∧ i < (List.length l6:Int)) <|
 go ((i64.wrap (i + (1:Int))),(List.set l6 (Int.toNat i) q15_13))
 else
 bif (op == (1:Int)) then
 guardF (0 ≤ r18.1 ∧ r18.1 < (List.length a.2:Int)) <|
 guardF (0 ≤ r19.1 ∧ r19.1 < (List.length b.2:Int)) <|
 bindF (f130 (rd (0:Int) a.2 r18.1) (rd (0:Int) b.2 r19.1)) fun q17_13 =>
 guardF (0 ≤ i ∧ i < (List.length l6:Int)) <|
 go ((i64.wrap (i + (1:Int))),(List.set l6 (Int.toNat i) q17_13))
 else
 guardF (0 ≤ r18.1 ∧ r18.1 < (List.length a.2:Int)) <|
 guardF (0 ≤ r19.1 ∧ r19.1 < (List.length b.2:Int)) <|
 bindF (f131 (rd (0:Int) a.2 r18.1) (rd (0:Int) b.2 r19.1)) fun q13_13 =>
 guardF (0 ≤ i ∧ i < (List.length l6:Int)) <|
 go ((i64.wrap (i + (1:Int))),(List.set l6 (Int.toNat i) q13_13))
 else
 some l6
def f77 (op:Int) (a : LI×LI) (b : LI×LI) : Option (Int×LI×LI) :=
 bindF (f77_j2 a b) fun z5 =>
 sumF z5 (fun z5a =>
 bindF (f127 a.1 b.1) fun r11 =>
 bif (r11.1 != (0:Int)) then
 some (r11.1,[],[])
 else
 bindF (f71 r11.2 (0:Int)) fun r12 =>
 bindF (loopF (fun go x=>f77_l4 op a b r11 go x.1 x.2) fuelN ((0:Int),r12.2)) fun z17 =>
 some ((0:Int),r12.1,z17)) (fun z5b =>
 some ((1:Int),[],[]))
def C77 : Con where
 X := Int×(LI×LI)×(LI×LI)
 Y := Int×LI×LI
 e := 0
 args x := [.dat T2 x.1,.dat T3 x.2.1,.dat T3 x.2.2]
 hin x := []
 F x := f77 x.1 x.2.1 x.2.2
 ret y := [.raw true [(.osl 0),(.osl 1)],.dat T2 y.1]
 hout y := [(0,.arr 3 T2 y.2.1),(1,.arr 40 T2 y.2.2)]
 nout := 2
theorem C77_vc (op:Int) (a : LI×LI) (b : LI×LI) (y : Int×LI×LI) (q : f77 op a b = some y) : VC Tryz.f77 C77 (op,a,b) y := by
 unfold f77 at q
 refine OL ?_
 obtain ⟨z5,hz5,q⟩ := bE q
 refine OQ ⟨Sum.elim (fun z5a=>[(0,⟨[(0,.dat T2 op),(4,P0 0 0),(5,P0 1 0),(6,P0 2 0)],[(0,.cells [(.d T1 a.1),(.d T1 a.2)]),(1,.cells [(.d T1 b.1),(.d T1 b.2)]),(2,.cells [N0,N0])],3⟩)]) (fun z5b=>[(1,⟨[(6,P0 0 0),(7,D0 1)],[(0,.cells [N0,N0])],1⟩)]) z5,?_,?_⟩
 ·have q := hz5
  clear hz5
  unfold f77_j2 at q
  obtain ⟨z8,hz8,q⟩ := bE q
  refine OQ ⟨[(0,⟨[(0,.dat T2 op),(4,P0 0 0),(5,P0 1 0),(6,P0 2 0),(23,.dat .bool z8)],[(0,.cells [(.d T1 a.1),(.d T1 a.2)]),(1,.cells [(.d T1 b.1),(.d T1 b.2)]),(2,.cells [N0,N0])],3⟩)],?_,?_⟩
  ·have q := hz8
   clear hz8
   unfold f77_j3 at q
   obtain ⟨r9,hr9,q⟩ := bE q
   refine OL (AI f62_in (cV (cQ C62 (a.1,a.2) r9 [] false C62_holds hr9 rfl rfl (R2 (K0 (cN q (fun q=>?_) (fun q=>?_)))))))
   ·refine gY ?_
    obtain ⟨r10,hr10,q⟩ := bE q
    refine OL (AI f62_in (cV (cQ C62 (b.1,b.2) r10 [] false C62_holds hr10 rfl rfl (R2 (K0 (gY (cF ?_)))))))
    cases sE q
    refine E4 I3 (R3 (AI (R3 TV) (R3 TV)))
   refine gN (gN (cT ?_))
   cases sE q
   refine E4 I3 (R3 (AI (R3 TV) (R3 TV)))
  refine AI (cI q (fun q=>?_) (fun q=>?_)) TV
  ·refine OL (OL ?_)
   cases sE q
   refine E4 [(0,some 2)] (R2 (AJ (AI rfl TV)))
  cases sE q
  refine E4 I3 (R2 (AI (R3 TV) (R3 TV)))
 rcases z5 with z5a | z5b
 ·dsimp only [sumF] at q
  refine AI (OL ?_) TV
  obtain ⟨r11,hr11,q⟩ := bE q
  refine OL (AI f127_in (cV (cQ C127 (a.1,b.1) r11 [] false C127_holds hr11 rfl rfl (R2 (K0 (OL (OL (cI q (fun q=>?_) (fun q=>?_)))))))))
  ·refine OL (OL ?_)
   cases sE q
   refine AI rfl (E4 [(0,none),(1,none)] (R2 (AJ (R2 TV))))
  refine OL ?_
  obtain ⟨r12,hr12,q⟩ := bE q
  refine OL (AI f71_in (cV (cQ C71 (r11.2,(0:Int)) r12 [] true C71_holds hr12 rfl rfl (R2 (AI (fun _=>rfl) (R2 (AI TV (AI TV (OL (OL (OL ?_)))))))))))
  obtain ⟨z17,hz17,q⟩ := bE q
  refine lI (Int×LI) LI (fun x=>⟨[(0,.dat T2 op),(4,P0 0 0),(5,P0 1 0),(6,P0 2 0),(8,O0 3),(10,P0 4 0),(11,.dat T2 x.1)],[(0,.cells [(.d T1 a.1),(.d T1 a.2)]),(1,.cells [(.d T1 b.1),(.d T1 b.2)]),(2,.cells [N0,N0]),(3,.arr 3 T2 r11.2),(4,.cells [(.osl 5),(.osl 6)]),(5,.arr 3 T2 r12.1),(6,.arr 40 T2 x.2)],7⟩) (fun z=>[(2,⟨[(6,P0 0 0),(10,P0 1 0)],[(0,.cells [N0,N0]),(1,.cells [(.osl 2),(.osl 3)]),(2,.arr 3 T2 r12.1),(3,.arr 40 T2 z)],4⟩)]) (loopF (fun go x=>f77_l4 op a b r11 go x.1 x.2)) fuelN ((0:Int),r12.2) z17 (AI hz17 (AI (E4 [(0,some 0),(1,some 1),(2,some 2),(3,some 3),(4,some 6),(5,some 4),(6,some 5)] (R3 (AI (R5 TV) (R7 TV)))) (AI (fun _ _ h=>lZ h) (AI (fun m=>curI (fun i=>fun l6 z q=>?_)) ?_))))
  ·have q : f77_l4 op a b r11 (loopF (fun go x=>f77_l4 op a b r11 go x.1 x.2) m) i l6 = some z := q
   unfold f77_l4 at q
   refine OL (OL (cI q (fun q=>?_) (fun q=>?_)))
   ·refine OL (OL ?_)
    obtain ⟨r18,hr18,q⟩ := bE q
    refine OL (AI f128_in (cV (cQ C128 (a.1,r11.2,i) r18 [] true C128_holds hr18 rfl rfl (R3 (AI (fun _=>rfl) (R2 (AI TV (AI TV (OL ?_)))))))))
    obtain ⟨r19,hr19,q⟩ := bE q
    refine OL (AI f128_in (cV (cQ C128 (b.1,r11.2,i) r19 [] true C128_holds hr19 rfl rfl (R3 (AI (fun _=>rfl) (R2 (AI TV (AI TV (OL (OL (cI q (fun q=>?_) (fun q=>?_))))))))))))
    ·refine EI (.take 0 (.take 1 (.take 2 (.take 3 (.take 4 (.take 5 (.take 6 (.take 7 (.take 8 (.take 9 (.take 10 (.take 11 (.take 12 (.alt 13 (.take 14 (.alt 15 .done .done)) .done)))))))))))))) (EI [] (EI [] (AI rfl (gI q (fun q=>?_)))))
     refine gI q (fun q=>?_)
     refine AI TV ?_
     obtain ⟨q15_13,hq15_13,q⟩ := bE q
     refine OL (AI f129_in (cV (cQ C129 ((rd (0:Int) a.2 r18.1),(rd (0:Int) b.2 r19.1)) q15_13 [] false C129_holds hq15_13 rfl rfl (R2 (K0 (gI q (fun q=>?_)))))))
     refine AI TV (OL (EI ((i64.wrap (i + (1:Int))),(List.set l6 (Int.toNat i) q15_13)) (AI q (E4 I7 (R3 (AI (R5 TV) (R7 TV)))))))
    refine OL (cI q (fun q=>?_) (fun q=>?_))
    ·refine EI (.take 0 (.take 1 (.take 2 (.take 3 (.take 4 (.take 5 (.take 6 (.take 7 (.take 8 (.take 9 (.take 10 (.take 11 (.take 12 (.alt 13 (.take 14 (.alt 15 .done .done)) .done)))))))))))))) (EI [] (EI [] (AI rfl (gI q (fun q=>?_)))))
     refine gI q (fun q=>?_)
     refine AI TV ?_
     obtain ⟨q17_13,hq17_13,q⟩ := bE q
     refine OL (AI f130_in (cV (cQ C130 ((rd (0:Int) a.2 r18.1),(rd (0:Int) b.2 r19.1)) q17_13 [] false C130_holds hq17_13 rfl rfl (R2 (K0 (gI q (fun q=>?_)))))))
     refine AI TV (OL (EI ((i64.wrap (i + (1:Int))),(List.set l6 (Int.toNat i) q17_13)) (AI q (E4 I7 (R3 (AI (R5 TV) (R7 TV)))))))
    refine EI (.take 0 (.take 1 (.take 2 (.take 3 (.take 4 (.take 5 (.take 6 (.take 7 (.take 8 (.take 9 (.take 10 (.take 11 (.take 12 (.alt 13 (.take 14 (.alt 15 .done .done)) .done)))))))))))))) (EI [] (EI [] (AI rfl (gI q (fun q=>?_)))))
    refine gI q (fun q=>?_)
    refine AI TV ?_
    obtain ⟨q13_13,hq13_13,q⟩ := bE q
    refine OL (AI f131_in (cV (cQ C131 ((rd (0:Int) a.2 r18.1),(rd (0:Int) b.2 r19.1)) q13_13 [] false C131_holds hq13_13 rfl rfl (R2 (K0 (gI q (fun q=>?_)))))))
    refine AI TV (OL (EI ((i64.wrap (i + (1:Int))),(List.set l6 (Int.toNat i) q13_13)) (AI q (E4 I7 (R3 (AI (R5 TV) (R7 TV)))))))
   cases sE q
   refine E4 [(0,some 2),(1,some 4),(2,some 5),(3,some 6)] (AI rfl (AI (R2 TV) (R4 TV)))
  refine AI (OL (OL ?_)) TV
  cases sE q
  refine AI rfl (E4 [(0,some 2),(1,some 3)] (R2 (AJ (R2 TV))))
 dsimp only [sumF] at q
 refine AI ?_ TV
 cases sE q
 refine AI rfl (E4 [(0,none),(1,none)] (R2 (AJ (R2 TV))))
theorem C77_holds : HP C77 77 := hH Tryz.f77 (by kernel_rfl) rfl (fun x y q=>C77_vc x.1 x.2.1 x.2.2 y q)
theorem f77_in : InP 77 := inP (by kernel_rfl)
def f115_l1 (a : LI×LI) (k:Int) (go : (Int×LI) → Option LI) (i:Int) (l4 : LI) : Option LI :=
 bif (decide (i < (List.length l4:Int))) then
 guardF (0 ≤ i ∧ i < (List.length a.2:Int)) <|
 bindF (f131 (rd (0:Int) a.2 i) k) fun q7_9 =>
 guardF (0 ≤ i ∧ i < (List.length l4:Int)) <|
 go ((i64.wrap (i + (1:Int))),(List.set l4 (Int.toNat i) q7_9))
 else
 some l4
def f115 (a : LI×LI) (k:Int) : Option (Int×LI×LI) :=
 bindF (f62 (a.1,a.2)) fun q7_11 =>
 bif (!q7_11) then
 some ((1:Int),[],[])
 else
 bindF (f71 a.1 (0:Int)) fun r1 =>
 bindF (loopF (fun go x=>f115_l1 a k go x.1 x.2) fuelN ((0:Int),r1.2)) fun z2 =>
 some ((0:Int),r1.1,z2)
def C115 : Con where
 X := (LI×LI)×Int
 Y := Int×LI×LI
 e := 0
 args x := [.dat T3 x.1,.dat T2 x.2]
 hin x := []
 F x := f115 x.1 x.2
 ret y := [.raw true [(.osl 0),(.osl 1)],.dat T2 y.1]
 hout y := [(0,.arr 3 T2 y.2.1),(1,.arr 40 T2 y.2.2)]
 nout := 2
theorem C115_vc (a : LI×LI) (k:Int) (y : Int×LI×LI) (q : f115 a k = some y) : VC Tryz.f115 C115 (a,k) y := by
 unfold f115 at q
 refine OL (OL (OL ?_))
 obtain ⟨q7_11,hq7_11,q⟩ := bE q
 refine OL (AI f62_in (cV (cQ C62 (a.1,a.2) q7_11 [] false C62_holds hq7_11 rfl rfl (R2 (K0 (cI q (fun q=>?_) (fun q=>?_)))))))
 ·refine OL (OL ?_)
  cases sE q
  refine AI rfl (E4 [(0,none),(1,none)] (R2 (AJ (R2 TV))))
 refine OL ?_
 obtain ⟨r1,hr1,q⟩ := bE q
 refine OL (AI f71_in (cV (cQ C71 (a.1,(0:Int)) r1 [] false C71_holds hr1 rfl rfl (R2 (K0 (OL (OL (OL ?_))))))))
 obtain ⟨z2,hz2,q⟩ := bE q
 refine lI (Int×LI) LI (fun x=>⟨[(1,.dat T2 k),(2,P0 0 0),(4,P0 1 0),(6,P0 2 0),(7,.dat T2 x.1)],[(0,.cells [(.d T1 a.1),(.d T1 a.2)]),(1,.cells [N0,N0]),(2,.cells [(.osl 3),(.osl 4)]),(3,.arr 3 T2 r1.1),(4,.arr 40 T2 x.2)],5⟩) (fun z=>[(2,⟨[(4,P0 0 0),(6,P0 1 0)],[(0,.cells [N0,N0]),(1,.cells [(.osl 2),(.osl 3)]),(2,.arr 3 T2 r1.1),(3,.arr 40 T2 z)],4⟩)]) (loopF (fun go x=>f115_l1 a k go x.1 x.2)) fuelN ((0:Int),r1.2) z2 (AI hz2 (AI (E4 [(0,some 0),(1,some 1),(2,some 4),(3,some 2),(4,some 3)] (R3 (AI (R3 TV) (R5 TV)))) (AI (fun _ _ h=>lZ h) (AI (fun m=>curI (fun i=>fun l4 z q=>?_)) ?_))))
 ·have q : f115_l1 a k (loopF (fun go x=>f115_l1 a k go x.1 x.2) m) i l4 = some z := q
  unfold f115_l1 at q
  refine OL (OL (cI q (fun q=>?_) (fun q=>?_)))
  ·refine OL (EI (.take 0 (.take 1 (.take 2 (.take 3 (.take 4 (.take 5 (.take 6 (.take 7 (.take 8 (.alt 9 (.take 10 (.alt 11 .done .done)) .done)))))))))) (EI [] (EI [] (AI rfl (gI q (fun q=>?_))))))
   refine AI TV ?_
   obtain ⟨q7_9,hq7_9,q⟩ := bE q
   refine OL (AI f131_in (cV (cQ C131 ((rd (0:Int) a.2 i),k) q7_9 [] false C131_holds hq7_9 rfl rfl (R2 (K0 (gI q (fun q=>?_)))))))
   refine AI TV (OL (EI ((i64.wrap (i + (1:Int))),(List.set l4 (Int.toNat i) q7_9)) (AI q (E4 I5 (R3 (AI (R3 TV) (R5 TV)))))))
  cases sE q
  refine E4 [(0,some 1),(1,some 2),(2,some 3),(3,some 4)] (AI rfl (AI (R2 TV) (R4 TV)))
 refine AI (OL (OL ?_)) TV
 cases sE q
 refine AI rfl (E4 [(0,some 2),(1,some 3)] (R2 (AJ (R2 TV))))
theorem C115_holds : HP C115 115 := hH Tryz.f115 (by kernel_rfl) rfl (fun x y q=>C115_vc x.1 x.2 y q)
theorem f115_in : InP 115 := inP (by kernel_rfl)
def f117 (a : LI×LI) (b : LI×LI) : Option (Int×LI×LI) :=
 none
def C117 : Con where
 X := (LI×LI)×(LI×LI)
 Y := Int×LI×LI
 e := 0
 args x := [.dat T3 x.1,.dat T3 x.2]
 hin x := []
 F x := f117 x.1 x.2
 ret y := [.raw true [(.osl 0),(.osl 1)],.dat T2 y.1]
 hout y := [(0,.arr 3 T2 y.2.1),(1,.arr 40 T2 y.2.2)]
 nout := 2
theorem C117_vc (a : LI×LI) (b : LI×LI) (y : Int×LI×LI) (q : f117 a b = some y) : VC Tryz.f117 C117 (a,b) y := by
 unfold f117 at q
 exact nomatch q
theorem C117_holds : HP C117 117 := hH Tryz.f117 (by kernel_rfl) rfl (fun x y q=>C117_vc x.1 x.2 y q)
theorem f117_in : InP 117 := inP (by kernel_rfl)
def f119_j1 (d : LI) (place_ : LI) : Option (Sum Unit Unit) :=
 bindF (f102 d) fun r2 =>
 bif (!r2) then
 some (Sum.inr ())
 else
 bif ((List.length place_:Int) != (List.length d:Int)) then
 some (Sum.inr ())
 else
 some (Sum.inl ())
def f119_j5 (d : LI) (place_ : LI) (i:Int) : Option (Sum Unit Unit) :=
 guardF (0 ≤ i ∧ i < (List.length place_:Int)) <|
 bif (decide ((rd (0:Int) place_ i) < (0:Int))) then
 some (Sum.inr ())
 else
 guardF (0 ≤ i ∧ i < (List.length place_:Int)) <|
 guardF (0 ≤ i ∧ i < (List.length d:Int)) <|
 bif (decide ((rd (0:Int) place_ i) ≥ (rd (0:Int) d i))) then
 some (Sum.inr ())
 else
 some (Sum.inl ())
def f119_l4 (d : LI) (place_ : LI) (go : (Int×Int) → Option (Sum Unit Int)) (at_:Int) (i:Int) : Option (Sum Unit Int) :=
 bif (decide (i < (List.length d:Int))) then
 bindF (f119_j5 d place_ i) fun z6 =>
 sumF z6 (fun z6a =>
 guardF (0 ≤ i ∧ i < (List.length d:Int)) <|
 guardF (0 ≤ i ∧ i < (List.length place_:Int)) <|
 go ((i64.wrap ((i64.wrap (at_ * (rd (0:Int) d i))) + (rd (0:Int) place_ i))),(i64.wrap (i + (1:Int))))) (fun z6b =>
 some (Sum.inl ()))
 else
 some (Sum.inr at_)
def f119 (d : LI) (place_ : LI) : Option (Int×Bool) :=
 bindF (f119_j1 d place_) fun z1 =>
 sumF z1 (fun z1a =>
 bindF (loopF (fun go x=>f119_l4 d place_ go x.1 x.2) fuelN ((0:Int),(0:Int))) fun z5 =>
 sumF z5 (fun z5a =>
 some ((0:Int),false)) (fun z5b =>
 some (z5b,true))) (fun z1b =>
 some ((0:Int),false))
def C119 : Con where
 X := LI×LI
 Y := Int×Bool
 e := 0
 args x := [.dat T1 x.1,.dat T1 x.2]
 hin x := []
 F x := f119 x.1 x.2
 ret y := [.dat T2 y.1,.dat .bool y.2]
 hout y := []
 nout := 0
theorem C119_vc (d : LI) (place_ : LI) (y : Int×Bool) (q : f119 d place_ = some y) : VC Tryz.f119 C119 (d,place_) y := by
 unfold f119 at q
 refine OL ?_
 obtain ⟨z1,hz1,q⟩ := bE q
 refine OQ ⟨Sum.elim (fun z1a=>[(0,⟨[(0,.dat T1 d),(1,.dat T1 place_)],[],0⟩)]) (fun z1b=>[(1,⟨[(4,D0 0),(5,.dat .bool false)],[],0⟩)]) z1,?_,?_⟩
 ·have q := hz1
  clear hz1
  unfold f119_j1 at q
  refine OL ?_
  obtain ⟨r2,hr2,q⟩ := bE q
  refine OL (AI f102_in (cV (cQ C102 d r2 [] false C102_holds hr2 rfl rfl (AI rfl (K0 (cN q (fun q=>?_) (fun q=>?_)))))))
  ·refine gY (gY (gY (gY (cF (cI q (fun q=>?_) (fun q=>?_))))))
   ·cases sE q
    refine OL (E4 [] (R3 (AI TV TV)))
   cases sE q
   refine E4 [] (R3 (AI TV TV))
  refine gN (gN (gN (gN (cT (cT (OL ?_))))))
  cases sE q
  refine E4 [] (R3 (AI TV TV))
 rcases z1 with z1a | z1b
 ·dsimp only [sumF] at q
  refine AI (OL (OL (OL ?_))) TV
  obtain ⟨z5,hz5,q⟩ := bE q
  refine lI (Int×Int) (Sum Unit Int) (fun x=>⟨[(0,.dat T1 d),(1,.dat T1 place_),(6,.dat T2 x.1),(7,.dat T2 x.2)],[],0⟩) (fun z=>Sum.elim (fun za=>[(1,⟨[(4,D0 0),(5,.dat .bool false)],[],0⟩)]) (fun zb=>[(2,⟨[(6,.dat T2 zb)],[],0⟩)]) z) (loopF (fun go x=>f119_l4 d place_ go x.1 x.2)) fuelN ((0:Int),(0:Int)) z5 (AI hz5 (AI (E4 [] (R5 (AI TV TV))) (AI (fun _ _ h=>lZ h) (AI (fun m=>curI (fun at_=>fun i z q=>?_)) ?_))))
  ·have q : f119_l4 d place_ (loopF (fun go x=>f119_l4 d place_ go x.1 x.2) m) at_ i = some z := q
   unfold f119_l4 at q
   refine OL (OL (cI q (fun q=>?_) (fun q=>?_)))
   ·refine OL ?_
    obtain ⟨z6,hz6,q⟩ := bE q
    refine OQ ⟨Sum.elim (fun z6a=>[(0,⟨[(0,.dat T1 d),(1,.dat T1 place_),(6,.dat T2 at_),(7,.dat T2 i)],[],0⟩)]) (fun z6b=>[(1,⟨[(4,D0 0),(5,.dat .bool false)],[],0⟩)]) z6,?_,?_⟩
    ·have q := hz6
     clear hz6
     unfold f119_j5 at q
     refine OL (EI (.take 0 (.take 1 (.take 2 (.take 3 (.take 4 (.take 5 (.take 6 (.take 7 (.take 8 (.take 9 (.take 10 (.take 11 (.take 12 (.take 13 (.take 14 (.take 15 .done)))))))))))))))) (EI [] (EI [] (AI rfl (gI q (fun q=>?_))))))
     refine cN q (fun q=>?_) (fun q=>?_)
     ·refine gY (gY (gI q (fun q=>?_)))
      refine gY (gY (gY (gY (gI q (fun q=>?_)))))
      refine gY (gY (cF (cI q (fun q=>?_) (fun q=>?_))))
      ·cases sE q
       refine OL (E4 [] (R3 (AI TV TV)))
      cases sE q
      refine E4 [] (R5 (AI TV TV))
     refine gN (gN (gN (gN (gN (gN (gN (gN (cT (cT (OL ?_))))))))))
     cases sE q
     refine E4 [] (R3 (AI TV TV))
    rcases z6 with z6a | z6b
    ·dsimp only [sumF] at q
     refine AI (EI (.take 0 (.take 1 (.take 2 (.take 3 (.take 4 (.take 5 (.take 6 (.take 7 (.take 8 (.take 9 (.take 10 (.take 11 .done)))))))))))) (EI [] (EI [] (AI rfl (gI q (fun q=>?_)))))) TV
     refine gI q (fun q=>?_)
     refine EI ((i64.wrap ((i64.wrap (at_ * (rd (0:Int) d i))) + (rd (0:Int) place_ i))),(i64.wrap (i + (1:Int)))) (AI q (E4 [] (R5 (AI TV TV))))
    dsimp only [sumF] at q
    refine AI ?_ TV
    cases sE q
    refine E4 [] (R3 (AI TV TV))
   cases sE q
   refine E4 [] (R2 (AI TV TV))
  rcases z5 with z5a | z5b
  ·dsimp only [sumF] at q
   refine AI ?_ TV
   cases sE q
   refine AI rfl (E4 [] (R3 (AI TV TV)))
  dsimp only [sumF] at q
  refine AI (OL ?_) TV
  cases sE q
  refine AI rfl (E4 [] (R3 (AI TV TV)))
 dsimp only [sumF] at q
 refine AI ?_ TV
 cases sE q
 refine AI rfl (E4 [] (R3 (AI TV TV)))
theorem C119_holds : HP C119 119 := hH Tryz.f119 (by kernel_rfl) rfl (fun x y q=>C119_vc x.1 x.2 y q)
theorem f119_in : InP 119 := inP (by kernel_rfl)
def f116 (a : LI×LI) : Option (Int×LI×LI) :=
 none
def C116 : Con where
 X := LI×LI
 Y := Int×LI×LI
 e := 0
 args x := [.dat T3 x]
 hin x := []
 F x := f116 x
 ret y := [.raw true [(.osl 0),(.osl 1)],.dat T2 y.1]
 hout y := [(0,.arr 3 T2 y.2.1),(1,.arr 40 T2 y.2.2)]
 nout := 2
theorem C116_vc (a : LI×LI) (y : Int×LI×LI) (q : f116 a = some y) : VC Tryz.f116 C116 a y := by
 unfold f116 at q
 exact nomatch q
theorem C116_holds : HP C116 116 := hH Tryz.f116 (by kernel_rfl) rfl (fun x y q=>C116_vc x y q)
theorem f116_in : InP 116 := inP (by kernel_rfl)
def f156 (k:Int) : Option Int :=
 bif (decide (k < (-1000000:Int))) then
 some (-1000000:Int)
 else
 bif (decide (k > (1000000:Int))) then
 some (-1000000:Int)
 else
 some k
def C156 : Con where
 X := Int
 Y := Int
 e := 0
 args x := [.dat T2 x]
 hin x := []
 F x := f156 x
 ret y := [.dat T2 y]
 hout y := []
 nout := 0
theorem C156_vc (k:Int) (y:Int) (q : f156 k = some y) : VC Tryz.f156 C156 k y := by
 unfold f156 at q
 refine OL (OL (OL (cN q (fun q=>?_) (fun q=>?_))))
 ·refine gY (cF (cI q (fun q=>?_) (fun q=>?_)))
  ·cases sE q
   refine OL (AI rfl (E4 [] (R2 (AI TV TV))))
  cases sE q
  refine OL (AI rfl (E4 [] (R2 (AI TV TV))))
 refine gN (cT (cT (OL ?_)))
 cases sE q
 refine AI rfl (E4 [] (R2 (AI TV TV)))
theorem C156_holds : HP C156 156 := hH Tryz.f156 (by kernel_rfl) rfl (fun x y q=>C156_vc x y q)
theorem f156_in : InP 156 := inP (by kernel_rfl)
def f155 (a : LI×LI) (side:Int) : Option (Int×LI×LI) :=
 none
def C155 : Con where
 X := (LI×LI)×Int
 Y := Int×LI×LI
 e := 0
 args x := [.dat T3 x.1,.dat T2 x.2]
 hin x := []
 F x := f155 x.1 x.2
 ret y := [.raw true [(.osl 0),(.osl 1)],.dat T2 y.1]
 hout y := [(0,.arr 3 T2 y.2.1),(1,.arr 40 T2 y.2.2)]
 nout := 2
theorem C155_vc (a : LI×LI) (side:Int) (y : Int×LI×LI) (q : f155 a side = some y) : VC Tryz.f155 C155 (a,side) y := by
 unfold f155 at q
 exact nomatch q
theorem C155_holds : HP C155 155 := hH Tryz.f155 (by kernel_rfl) rfl (fun x y q=>C155_vc x.1 x.2 y q)
theorem f155_in : InP 155 := inP (by kernel_rfl)
def f207_l1 (a : LI×LI) (go : (Int×Bool×Int×Int×Int×Int) → Option (Bool×Int×Int×Int×Int)) (i:Int) (c2_0 : Bool) (c2_1:Int) (c2_2:Int) (c2_3:Int) (c2_4:Int) : Option (Bool×Int×Int×Int×Int) :=
 bif (decide (i < (List.length a.2:Int))) then
 guardF (0 ≤ i ∧ i < (List.length a.2:Int)) <|
 bindF (f87 (rd (0:Int) a.2 i)) fun q5_6 =>
 bindF (f139 c2_0 c2_1 c2_2 c2_3 c2_4 q5_6.1 q5_6.2 (0:Int) (0:Int) (0:Int)) fun q5_7 =>
 go ((i64.wrap (i + (1:Int))),q5_7.1,q5_7.2.1,q5_7.2.2.1,q5_7.2.2.2.1,q5_7.2.2.2.2)
 else
 some (c2_0,c2_1,c2_2,c2_3,c2_4)
def f207 (a : LI×LI) : Option (Bool×Int×Int×Int×Int) :=
 bindF (loopF (fun go x=>f207_l1 a go x.1 x.2.1 x.2.2.1 x.2.2.2.1 x.2.2.2.2.1 x.2.2.2.2.2) fuelN ((0:Int),false,(0:Int),(0:Int),(0:Int),(0:Int))) fun z1 =>
 some (z1.1,z1.2.1,z1.2.2.1,z1.2.2.2.1,z1.2.2.2.2)
def C207 : Con where
 X := LI×LI
 Y := Bool×Int×Int×Int×Int
 e := 0
 args x := [.dat T3 x]
 hin x := []
 F x := f207 x
 ret y := [.raw true [(.d .bool y.1),(.d T4 y.2.1),(.d T4 y.2.2.1),(.d T4 y.2.2.2.1),(.d T4 y.2.2.2.2)]]
 hout y := []
 nout := 0
theorem C207_vc (a : LI×LI) (y : Bool×Int×Int×Int×Int) (q : f207 a = some y) : VC Tryz.f207 C207 a y := by
 unfold f207 at q
 refine OL (OL (OL (OL (OL ?_))))
 obtain ⟨z1,hz1,q⟩ := bE q
 refine lI (Int×Bool×Int×Int×Int×Int) (Bool×Int×Int×Int×Int) (fun x=>⟨[(1,P0 0 0),(2,P0 1 0),(3,P0 2 0),(4,.dat T2 x.1)],[(0,.cells [(.d T1 a.1),(.d T1 a.2)]),(1,.cells [(.d .bool false),(.d T4 (0:Int)),(.d T4 (0:Int)),(.d T4 (0:Int)),(.d T4 (0:Int))]),(2,.cells [(.d .bool x.2.1),(.d T4 x.2.2.1),(.d T4 x.2.2.2.1),(.d T4 x.2.2.2.2.1),(.d T4 x.2.2.2.2.2)])],3⟩) (fun z=>[(2,⟨[(2,P0 0 0),(3,P0 1 0)],[(0,.cells [(.d .bool false),(.d T4 (0:Int)),(.d T4 (0:Int)),(.d T4 (0:Int)),(.d T4 (0:Int))]),(1,.cells [(.d .bool z.1),(.d T4 z.2.1),(.d T4 z.2.2.1),(.d T4 z.2.2.2.1),(.d T4 z.2.2.2.2)])],2⟩)]) (loopF (fun go x=>f207_l1 a go x.1 x.2.1 x.2.2.1 x.2.2.2.1 x.2.2.2.2.1 x.2.2.2.2.2)) fuelN ((0:Int),false,(0:Int),(0:Int),(0:Int),(0:Int)) z1 (AI hz1 (AI (E4 I3 (R2 (AI (R3 TV) (R3 TV)))) (AI (fun _ _ h=>lZ h) (AI (fun m=>curI (fun i=>curI (fun c2_0=>curI (fun c2_1=>curI (fun c2_2=>curI (fun c2_3=>fun c2_4 z q=>?_)))))) ?_))))
 ·have q : f207_l1 a (loopF (fun go x=>f207_l1 a go x.1 x.2.1 x.2.2.1 x.2.2.2.1 x.2.2.2.2.1 x.2.2.2.2.2) m) i c2_0 c2_1 c2_2 c2_3 c2_4 = some z := q
  unfold f207_l1 at q
  refine OL (OL (cI q (fun q=>?_) (fun q=>?_)))
  ·refine OL (EI (.take 0 (.take 1 (.take 2 (.take 3 (.take 4 (.take 5 (.alt 6 (.alt 7 (.alt 8 .done .done) .done) .done))))))) (EI [(8,[2])] (EI [] (AI rfl (gI q (fun q=>?_))))))
   refine AI TV ?_
   obtain ⟨q5_6,hq5_6,q⟩ := bE q
   refine OL (AI f87_in (cV (cQ C87 (rd (0:Int) a.2 i) q5_6 [] false C87_holds hq5_6 rfl rfl (AI rfl (K0 (AI TV ?_))))))
   obtain ⟨q5_7,hq5_7,q⟩ := bE q
   refine OL (AI f139_in (cV (cQ C139 (c2_0,c2_1,c2_2,c2_3,c2_4,q5_6.1,q5_6.2,(0:Int),(0:Int),(0:Int)) q5_7 [] false C139_holds hq5_7 rfl rfl (AI NH (R2 (AI (R2 TV) (AI TV (AI TV (OL (EI ((i64.wrap (i + (1:Int))),q5_7.1,q5_7.2.1,q5_7.2.2.1,q5_7.2.2.2.1,q5_7.2.2.2.2) (AI q (E4 I3 (R2 (AI (R3 TV) (R3 TV)))))))))))))))
  cases sE q
  refine E4 [(0,some 1),(1,some 2)] (AI rfl (AI (R2 TV) (R2 TV)))
 refine AI (OL (OL ?_)) TV
 cases sE q
 refine AI rfl (E4 [] (AI rfl (AJ TV)))
theorem C207_holds : HP C207 207 := hH Tryz.f207 (by kernel_rfl) rfl (fun x y q=>C207_vc x y q)
theorem f207_in : InP 207 := inP (by kernel_rfl)
def f158 (a : LI×LI) : Option Int :=
 bindF (f207 (a.1,a.2)) fun r1 =>
 bindF (f120 r1.1 r1.2.1 r1.2.2.1 r1.2.2.2.1 r1.2.2.2.2) fun r2 =>
 some r2
def C158 : Con where
 X := LI×LI
 Y := Int
 e := 0
 args x := [.dat T3 x]
 hin x := []
 F x := f158 x
 ret y := [.dat T2 y]
 hout y := []
 nout := 0
theorem C158_vc (a : LI×LI) (y:Int) (q : f158 a = some y) : VC Tryz.f158 C158 a y := by
 unfold f158 at q
 refine OL (OL ?_)
 obtain ⟨r1,hr1,q⟩ := bE q
 refine OL (AI f207_in (cV (cQ C207 (a.1,a.2) r1 [] false C207_holds hr1 rfl rfl (R2 (K0 ?_)))))
 obtain ⟨r2,hr2,q⟩ := bE q
 refine OL (AI f120_in (cV (cQ C120 (r1.1,r1.2.1,r1.2.2.1,r1.2.2.2.1,r1.2.2.2.2) r2 [] false C120_holds hr2 rfl rfl (AI NH (R2 (AJ (AI TV ?_)))))))
 cases sE q
 refine AI rfl (E4 [] (R2 (AI TV TV)))
theorem C158_holds : HP C158 158 := hH Tryz.f158 (by kernel_rfl) rfl (fun x y q=>C158_vc x y q)
theorem f158_in : InP 158 := inP (by kernel_rfl)
def f157 (v:Int) : Option (LI×LI) :=
 bindF (f71 ([]) v) fun r1 =>
 some (r1.1,r1.2)
def C157 : Con where
 X := Int
 Y := LI×LI
 e := 0
 args x := [.dat T2 x]
 hin x := []
 F x := f157 x
 ret y := [.raw true [(.osl 0),(.osl 1)]]
 hout y := [(0,.arr 3 T2 y.1),(1,.arr 40 T2 y.2)]
 nout := 2
theorem C157_vc (v:Int) (y : LI×LI) (q : f157 v = some y) : VC Tryz.f157 C157 v y := by
 unfold f157 at q
 refine OL (OL ?_)
 obtain ⟨r1,hr1,q⟩ := bE q
 refine OL (AI f71_in (cV (cQ C71 ([],v) r1 [] false C71_holds hr1 rfl rfl (R2 (K0 (OL ?_))))))
 cases sE q
 refine AI rfl (E4 [(0,some 1),(1,some 2)] (AI rfl (AJ (R2 TV))))
theorem C157_holds : HP C157 157 := hH Tryz.f157 (by kernel_rfl) rfl (fun x y q=>C157_vc x y q)
theorem f157_in : InP 157 := inP (by kernel_rfl)
def f121_j4 (r1:Int) (rest:Int) (r9:Int) : Option Bool :=
 bif ((Int.fdiv rest (2 ^ min (Int.toNat (63:Int)) u64.bits)) == (1:Int)) then
 some true
 else
 some (decide ((bitsOf IntKind.u64 (fun p q=>p ||| q) (u64.wrap (rest * 2 ^ min (Int.toNat (1:Int)) u64.bits)) r9) ≥ r1))
def f121_l3 (a_M_0:Int) (a_M_1:Int) (a_M_2:Int) (a_M_3:Int) (r1:Int) (go : (Int×Int×Int×Int×Int×Int) → Option (Int×Int×Int×Int×Int)) (rest:Int) (i:Int) (c2_1:Int) (c2_2:Int) (c2_3:Int) (c2_4:Int) : Option (Int×Int×Int×Int×Int) :=
 bif (decide (i ≥ (0:Int))) then
 bindF (f181 a_M_0 a_M_1 a_M_2 a_M_3 i) fun r9 =>
 bindF (f121_j4 r1 rest r9) fun z10 =>
 bif z10 then
 guardF (0 ≤ (i64.wrap (Int.tdiv i (64:Int))) ∧ (i64.wrap (Int.tdiv i (64:Int))) < (4:Int)) <|
 pickF (i64.wrap (Int.tdiv i (64:Int)))
 [(guardF (0 ≤ (u64.wrap (Int.tmod i (64:Int)))) <|
 go ((u64.wrap ((bitsOf IntKind.u64 (fun p q=>p ||| q) (u64.wrap (rest * 2 ^ min (Int.toNat (1:Int)) u64.bits)) r9) - r1)),(i64.wrap (i - (1:Int))),(bitsOf IntKind.u64 (fun p q=>p ||| q) c2_1 (u64.wrap ((1:Int) * 2 ^ min (Int.toNat (u64.wrap (Int.tmod i (64:Int)))) u64.bits))),c2_2,c2_3,c2_4)),
 (guardF (0 ≤ (u64.wrap (Int.tmod i (64:Int)))) <|
 go ((u64.wrap ((bitsOf IntKind.u64 (fun p q=>p ||| q) (u64.wrap (rest * 2 ^ min (Int.toNat (1:Int)) u64.bits)) r9) - r1)),(i64.wrap (i - (1:Int))),c2_1,(bitsOf IntKind.u64 (fun p q=>p ||| q) c2_2 (u64.wrap ((1:Int) * 2 ^ min (Int.toNat (u64.wrap (Int.tmod i (64:Int)))) u64.bits))),c2_3,c2_4)),
 (guardF (0 ≤ (u64.wrap (Int.tmod i (64:Int)))) <|
 go ((u64.wrap ((bitsOf IntKind.u64 (fun p q=>p ||| q) (u64.wrap (rest * 2 ^ min (Int.toNat (1:Int)) u64.bits)) r9) - r1)),(i64.wrap (i - (1:Int))),c2_1,c2_2,(bitsOf IntKind.u64 (fun p q=>p ||| q) c2_3 (u64.wrap ((1:Int) * 2 ^ min (Int.toNat (u64.wrap (Int.tmod i (64:Int)))) u64.bits))),c2_4)),
 (guardF (0 ≤ (u64.wrap (Int.tmod i (64:Int)))) <|
 go ((u64.wrap ((bitsOf IntKind.u64 (fun p q=>p ||| q) (u64.wrap (rest * 2 ^ min (Int.toNat (1:Int)) u64.bits)) r9) - r1)),(i64.wrap (i - (1:Int))),c2_1,c2_2,c2_3,(bitsOf IntKind.u64 (fun p q=>p ||| q) c2_4 (u64.wrap ((1:Int) * 2 ^ min (Int.toNat (u64.wrap (Int.tmod i (64:Int)))) u64.bits)))))]
 else
 go ((bitsOf IntKind.u64 (fun p q=>p ||| q) (u64.wrap (rest * 2 ^ min (Int.toNat (1:Int)) u64.bits)) r9),(i64.wrap (i - (1:Int))),c2_1,c2_2,c2_3,c2_4)
 else
 some (rest,c2_1,c2_2,c2_3,c2_4)
def f121_j5 (r1:Int) (z8 : Int×Int×Int×Int×Int) : Option Bool :=
 bif (decide (z8.1 > (u64.wrap (r1 - z8.1)))) then
 some true
 else
 bif (z8.1 == (u64.wrap (r1 - z8.1))) then
 some ((bitsOf IntKind.u64 (fun p q=>p &&& q) z8.2.1 (1:Int)) == (1:Int))
 else
 some false
def f121 (a_Neg : Bool) (a_M_0:Int) (a_M_1:Int) (a_M_2:Int) (a_M_3:Int) (by_:Int) : Option (Bool×Int×Int×Int×Int) :=
 bindF (f141 by_) fun r1 =>
 bindF (loopF (fun go x=>f121_l3 a_M_0 a_M_1 a_M_2 a_M_3 r1 go x.1 x.2.1 x.2.2.1 x.2.2.2.1 x.2.2.2.2.1 x.2.2.2.2.2) fuelN ((0:Int),(255:Int),(0:Int),(0:Int),(0:Int),(0:Int))) fun z8 =>
 bindF (f121_j5 r1 z8) fun z12 =>
 bif z12 then
 bindF (f182 z8.2.1 z8.2.2.1 z8.2.2.2.1 z8.2.2.2.2 (1:Int) (0:Int) (0:Int) (0:Int)) fun r13 =>
 some ((!(a_Neg == (decide (by_ < (0:Int))))),r13.1,r13.2.1,r13.2.2.1,r13.2.2.2)
 else
 some ((!(a_Neg == (decide (by_ < (0:Int))))),z8.2.1,z8.2.2.1,z8.2.2.2.1,z8.2.2.2.2)
def C121 : Con where
 X := Bool×Int×Int×Int×Int×Int
 Y := Bool×Int×Int×Int×Int
 e := 0
 args x := [.raw true [(.d .bool x.1),(.d T4 x.2.1),(.d T4 x.2.2.1),(.d T4 x.2.2.2.1),(.d T4 x.2.2.2.2.1)],.dat T2 x.2.2.2.2.2]
 hin x := []
 F x := f121 x.1 x.2.1 x.2.2.1 x.2.2.2.1 x.2.2.2.2.1 x.2.2.2.2.2
 ret y := [.raw true [(.d .bool y.1),(.d T4 y.2.1),(.d T4 y.2.2.1),(.d T4 y.2.2.2.1),(.d T4 y.2.2.2.2)]]
 hout y := []
 nout := 0
theorem C121_vc (a_Neg : Bool) (a_M_0:Int) (a_M_1:Int) (a_M_2:Int) (a_M_3:Int) (by_:Int) (y : Bool×Int×Int×Int×Int) (q : f121 a_Neg a_M_0 a_M_1 a_M_2 a_M_3 by_ = some y) : VC Tryz.f121 C121 (a_Neg,a_M_0,a_M_1,a_M_2,a_M_3,by_) y := by
 unfold f121 at q
 refine OL (OL ?_)
 obtain ⟨r1,hr1,q⟩ := bE q
 refine OL (AI f141_in (cV (cQ C141 by_ r1 [] false C141_holds hr1 rfl rfl (AI rfl (K0 (OL (OL (OL (OL (OL ?_))))))))))
 obtain ⟨z8,hz8,q⟩ := bE q
 refine lI (Int×Int×Int×Int×Int×Int) (Int×Int×Int×Int×Int) (fun x=>⟨[(2,P0 0 0),(4,P0 1 0),(5,.dat T4 r1),(6,P0 2 0),(7,.dat T4 x.1),(8,.dat T2 x.2.1)],[(0,.cells [(.d .bool a_Neg),(.d T4 a_M_0),(.d T4 a_M_1),(.d T4 a_M_2),(.d T4 a_M_3)]),(1,.cells [(.d .bool false),(.d T4 (0:Int)),(.d T4 (0:Int)),(.d T4 (0:Int)),(.d T4 (0:Int))]),(2,.cells [(.d .bool (!(a_Neg == (decide (by_ < (0:Int)))))),(.d T4 x.2.2.1),(.d T4 x.2.2.2.1),(.d T4 x.2.2.2.2.1),(.d T4 x.2.2.2.2.2)])],3⟩) (fun z=>[(2,⟨[(4,P0 0 0),(5,.dat T4 r1),(6,P0 1 0),(7,.dat T4 z.1)],[(0,.cells [(.d .bool false),(.d T4 (0:Int)),(.d T4 (0:Int)),(.d T4 (0:Int)),(.d T4 (0:Int))]),(1,.cells [(.d .bool (!(a_Neg == (decide (by_ < (0:Int)))))),(.d T4 z.2.1),(.d T4 z.2.2.1),(.d T4 z.2.2.2.1),(.d T4 z.2.2.2.2)])],2⟩)]) (loopF (fun go x=>f121_l3 a_M_0 a_M_1 a_M_2 a_M_3 r1 go x.1 x.2.1 x.2.2.1 x.2.2.2.1 x.2.2.2.2.1 x.2.2.2.2.2)) fuelN ((0:Int),(255:Int),(0:Int),(0:Int),(0:Int),(0:Int)) z8 (AI hz8 (AI (E4 I3 (R4 (AI (R3 TV) (R3 TV)))) (AI (fun _ _ h=>lZ h) (AI (fun m=>curI (fun rest=>curI (fun i=>curI (fun c2_1=>curI (fun c2_2=>curI (fun c2_3=>fun c2_4 z q=>?_)))))) ?_))))
 ·have q : f121_l3 a_M_0 a_M_1 a_M_2 a_M_3 r1 (loopF (fun go x=>f121_l3 a_M_0 a_M_1 a_M_2 a_M_3 r1 go x.1 x.2.1 x.2.2.1 x.2.2.2.1 x.2.2.2.2.1 x.2.2.2.2.2) m) rest i c2_1 c2_2 c2_3 c2_4 = some z := q
  unfold f121_l3 at q
  refine OL (OL (cI q (fun q=>?_) (fun q=>?_)))
  ·refine OL (OL (AI (by decide) (OL (AI (by decide) ?_))))
   obtain ⟨r9,hr9,q⟩ := bE q
   refine OL (AI f181_in (cV (cQ C181 (a_M_0,a_M_1,a_M_2,a_M_3,i) r9 [] false C181_holds hr9 rfl rfl (AI rfl (AI NH (R2 (AJ (AI TV ?_))))))))
   obtain ⟨z10,hz10,q⟩ := bE q
   refine OQ ⟨[(0,⟨[(2,P0 0 0),(4,P0 1 0),(5,.dat T4 r1),(6,P0 2 0),(7,.dat T4 (bitsOf IntKind.u64 (fun p q=>p ||| q) (u64.wrap (rest * 2 ^ min (Int.toNat (1:Int)) u64.bits)) r9)),(8,.dat T2 i),(37,.dat .bool z10)],[(0,.cells [(.d .bool a_Neg),(.d T4 a_M_0),(.d T4 a_M_1),(.d T4 a_M_2),(.d T4 a_M_3)]),(1,.cells [(.d .bool false),(.d T4 (0:Int)),(.d T4 (0:Int)),(.d T4 (0:Int)),(.d T4 (0:Int))]),(2,.cells [(.d .bool (!(a_Neg == (decide (by_ < (0:Int)))))),(.d T4 c2_1),(.d T4 c2_2),(.d T4 c2_3),(.d T4 c2_4)])],3⟩)],?_,?_⟩
   ·have q := hz10
    clear hz10
    unfold f121_j4 at q
    refine cN q (fun q=>?_) (fun q=>?_)
    ·refine gY (gY (cF ?_))
     cases sE q
     refine E4 I3 (R5 (AI (R3 TV) (R3 TV)))
    refine gN (gN (cT ?_))
    cases sE q
    refine E4 I3 (R5 (AI (R3 TV) (R3 TV)))
   refine AI (cI q (fun q=>?_) (fun q=>?_)) TV
   ·refine OL (AI (by decide) (AI (by decide) (gI q (fun q=>?_))))
    refine AI (fun hk11=>?_) ?_
    ·have q := pickE q hk11
     dsimp only [nthO] at q
     refine AI (by decide) (gI q (fun q=>?_))
     refine AI (rE hk11 (by decide)) (AI (fun _=>?_) (AI (fun h=>absurd (hk11.symm.trans h) (by decide)) (AI (fun h=>absurd (hk11.symm.trans h) (by decide)) (AI (fun h=>absurd (hk11.symm.trans h) (by decide)) TV))))
     refine OL (EI ((u64.wrap ((bitsOf IntKind.u64 (fun p q=>p ||| q) (u64.wrap (rest * 2 ^ min (Int.toNat (1:Int)) u64.bits)) r9) - r1)),(i64.wrap (i - (1:Int))),(bitsOf IntKind.u64 (fun p q=>p ||| q) c2_1 (u64.wrap ((1:Int) * 2 ^ min (Int.toNat (u64.wrap (Int.tmod i (64:Int)))) u64.bits))),c2_2,c2_3,c2_4) (AI q (E4 I3 (R4 (AI (R3 TV) (R3 TV))))))
    refine AI (fun hk11=>?_) ?_
    ·have q := pickE q hk11
     dsimp only [nthO] at q
     refine AI (by decide) (gI q (fun q=>?_))
     refine AI (rE hk11 (by decide)) (AI (fun h=>absurd (hk11.symm.trans h) (by decide)) ?_)
     refine AI (fun _=>?_) (AI (fun h=>absurd (hk11.symm.trans h) (by decide)) (AI (fun h=>absurd (hk11.symm.trans h) (by decide)) TV))
     refine OL (EI ((u64.wrap ((bitsOf IntKind.u64 (fun p q=>p ||| q) (u64.wrap (rest * 2 ^ min (Int.toNat (1:Int)) u64.bits)) r9) - r1)),(i64.wrap (i - (1:Int))),c2_1,(bitsOf IntKind.u64 (fun p q=>p ||| q) c2_2 (u64.wrap ((1:Int) * 2 ^ min (Int.toNat (u64.wrap (Int.tmod i (64:Int)))) u64.bits))),c2_3,c2_4) (AI q (E4 I3 (R4 (AI (R3 TV) (R3 TV))))))
    refine AI (fun hk11=>?_) ?_
    ·have q := pickE q hk11
     dsimp only [nthO] at q
     refine AI (by decide) (gI q (fun q=>?_))
     refine AI (rE hk11 (by decide)) (AI (fun h=>absurd (hk11.symm.trans h) (by decide)) ?_)
     refine AI (fun h=>absurd (hk11.symm.trans h) (by decide)) ?_
     refine AI (fun _=>?_) (AI (fun h=>absurd (hk11.symm.trans h) (by decide)) TV)
     refine OL (EI ((u64.wrap ((bitsOf IntKind.u64 (fun p q=>p ||| q) (u64.wrap (rest * 2 ^ min (Int.toNat (1:Int)) u64.bits)) r9) - r1)),(i64.wrap (i - (1:Int))),c2_1,c2_2,(bitsOf IntKind.u64 (fun p q=>p ||| q) c2_3 (u64.wrap ((1:Int) * 2 ^ min (Int.toNat (u64.wrap (Int.tmod i (64:Int)))) u64.bits))),c2_4) (AI q (E4 I3 (R4 (AI (R3 TV) (R3 TV))))))
    refine AI (fun hk11=>?_) TV
    have q := pickE q hk11
    dsimp only [nthO] at q
    refine AI (by decide) (gI q (fun q=>?_))
    refine AI (rE hk11 (by decide)) (AI (fun h=>absurd (hk11.symm.trans h) (by decide)) ?_)
    refine AI (fun h=>absurd (hk11.symm.trans h) (by decide)) ?_
    refine AI (fun h=>absurd (hk11.symm.trans h) (by decide)) ?_
    refine AI (fun _=>?_) TV
    refine OL (EI ((u64.wrap ((bitsOf IntKind.u64 (fun p q=>p ||| q) (u64.wrap (rest * 2 ^ min (Int.toNat (1:Int)) u64.bits)) r9) - r1)),(i64.wrap (i - (1:Int))),c2_1,c2_2,c2_3,(bitsOf IntKind.u64 (fun p q=>p ||| q) c2_4 (u64.wrap ((1:Int) * 2 ^ min (Int.toNat (u64.wrap (Int.tmod i (64:Int)))) u64.bits)))) (AI q (E4 I3 (R4 (AI (R3 TV) (R3 TV))))))
   refine EI ((bitsOf IntKind.u64 (fun p q=>p ||| q) (u64.wrap (rest * 2 ^ min (Int.toNat (1:Int)) u64.bits)) r9),(i64.wrap (i - (1:Int))),c2_1,c2_2,c2_3,c2_4) (AI q (E4 I3 (R4 (AI (R3 TV) (R3 TV)))))
  cases sE q
  refine E4 [(0,some 1),(1,some 2)] (R3 (AI (R2 TV) (R2 TV)))
 refine AI (OL ?_) TV
 obtain ⟨z12,hz12,q⟩ := bE q
 refine OQ ⟨[(0,⟨[(4,P0 0 0),(6,P0 1 0),(73,.dat .bool z12)],[(0,.cells [(.d .bool false),(.d T4 (0:Int)),(.d T4 (0:Int)),(.d T4 (0:Int)),(.d T4 (0:Int))]),(1,.cells [(.d .bool (!(a_Neg == (decide (by_ < (0:Int)))))),(.d T4 z8.2.1),(.d T4 z8.2.2.1),(.d T4 z8.2.2.2.1),(.d T4 z8.2.2.2.2)])],2⟩)],?_,?_⟩
 ·have q := hz12
  clear hz12
  unfold f121_j5 at q
  refine cN q (fun q=>?_) (fun q=>?_)
  ·refine gY (gY (gY (gY (gY (cI q (fun q=>?_) (fun q=>?_))))))
   ·refine gX (AI (by decide) (AI (fun _=>?_) (AI (fun h=>absurd h (by decide)) (AI (fun h=>absurd h (by decide)) (AI (fun h=>absurd h (by decide)) TV)))))
    refine gX (gX (gX (gY (cT (cF ?_)))))
    cases sE q
    refine E4 I2 (R2 (AI (R2 TV) (R2 TV)))
   refine gM (gM (gM (gM (gY (cF (cF ?_))))))
   cases sE q
   refine E4 I2 (R2 (AI (R2 TV) (R2 TV)))
  refine gN (gN (gN (gN (gN (gN (cT ?_))))))
  cases sE q
  refine E4 I2 (R2 (AI (R2 TV) (R2 TV)))
 refine AI (cI q (fun q=>?_) (fun q=>?_)) TV
 ·obtain ⟨r13,hr13,q⟩ := bE q
  refine OL (AI f182_in (cV (cQ C182 (z8.2.1,z8.2.2.1,z8.2.2.2.1,z8.2.2.2.2,(1:Int),(0:Int),(0:Int),(0:Int)) r13 [] false C182_holds hr13 rfl rfl (AI NH (R2 (AI (R2 TV) (AI TV (OL (OL (OL ?_))))))))))
  cases sE q
  refine AI rfl (E4 [] (AI rfl (AJ TV)))
 refine OL (OL ?_)
 cases sE q
 refine AI rfl (E4 [] (AI rfl (AJ TV)))
theorem C121_holds : HP C121 121 := hH Tryz.f121 (by kernel_rfl) rfl (fun x y q=>C121_vc x.1 x.2.1 x.2.2.1 x.2.2.2.1 x.2.2.2.2.1 x.2.2.2.2.2 y q)
theorem f121_in : InP 121 := inP (by kernel_rfl)
def f159 (a : LI×LI) : Option Int :=
 bindF (f207 (a.1,a.2)) fun q1_1 =>
 bindF (f121 q1_1.1 q1_1.2.1 q1_1.2.2.1 q1_1.2.2.2.1 q1_1.2.2.2.2 (List.length a.2:Int)) fun q1_5 =>
 bindF (f120 q1_5.1 q1_5.2.1 q1_5.2.2.1 q1_5.2.2.2.1 q1_5.2.2.2.2) fun q1_6 =>
 some q1_6
def C159 : Con where
 X := LI×LI
 Y := Int
 e := 0
 args x := [.dat T3 x]
 hin x := []
 F x := f159 x
 ret y := [.dat T2 y]
 hout y := []
 nout := 0
theorem C159_vc (a : LI×LI) (y:Int) (q : f159 a = some y) : VC Tryz.f159 C159 a y := by
 unfold f159 at q
 refine OL (OL (EI (.take 0 (.take 2 (.take 3 (.take 4 (.alt 1 (.alt 5 (.alt 6 (.take 7 .done) .done) .done) .done))))) (EI [] (EI [] (AI rfl (AI TV ?_))))))
 obtain ⟨q1_1,hq1_1,q⟩ := bE q
 refine OL (AI f207_in (cV (cQ C207 (a.1,a.2) q1_1 [] false C207_holds hq1_1 rfl rfl (R2 (K0 (AI TV ?_))))))
 obtain ⟨q1_5,hq1_5,q⟩ := bE q
 refine OL (AI f121_in (cV (cQ C121 (q1_1.1,q1_1.2.1,q1_1.2.2.1,q1_1.2.2.2.1,q1_1.2.2.2.2,(List.length a.2:Int)) q1_5 [] false C121_holds hq1_5 rfl rfl (AI rfl (AI NH (R2 (AJ (AI TV (AI TV ?_)))))))))
 obtain ⟨q1_6,hq1_6,q⟩ := bE q
 refine OL (AI f120_in (cV (cQ C120 (q1_5.1,q1_5.2.1,q1_5.2.2.1,q1_5.2.2.2.1,q1_5.2.2.2.2) q1_6 [] false C120_holds hq1_6 rfl rfl (AI NH (R2 (AJ (AI TV ?_)))))))
 cases sE q
 refine AI rfl (E4 [] (R2 (AI TV TV)))
theorem C159_holds : HP C159 159 := hH Tryz.f159 (by kernel_rfl) rfl (fun x y q=>C159_vc x y q)
theorem f159_in : InP 159 := inP (by kernel_rfl)
def f253_l1 (a_M_0:Int) (a_M_1:Int) (a_M_2:Int) (a_M_3:Int) (n:Int) (go : (Int×Int×Int×Int×Int) → Option (Int×Int×Int×Int)) (i:Int) (c2_1:Int) (c2_2:Int) (c2_3:Int) (c2_4:Int) : Option (Int×Int×Int×Int) :=
 bif (decide (i ≥ n)) then
 bindF (f181 a_M_0 a_M_1 a_M_2 a_M_3 (i64.wrap (i - n))) fun r6 =>
 bif (r6 == (1:Int)) then
 guardF (0 ≤ (i64.wrap (Int.tdiv i (64:Int))) ∧ (i64.wrap (Int.tdiv i (64:Int))) < (4:Int)) <|
 pickF (i64.wrap (Int.tdiv i (64:Int)))
 [(guardF (0 ≤ (u64.wrap (Int.tmod i (64:Int)))) <|
 go ((i64.wrap (i - (1:Int))),(bitsOf IntKind.u64 (fun p q=>p ||| q) c2_1 (u64.wrap ((1:Int) * 2 ^ min (Int.toNat (u64.wrap (Int.tmod i (64:Int)))) u64.bits))),c2_2,c2_3,c2_4)),
 (guardF (0 ≤ (u64.wrap (Int.tmod i (64:Int)))) <|
 go ((i64.wrap (i - (1:Int))),c2_1,(bitsOf IntKind.u64 (fun p q=>p ||| q) c2_2 (u64.wrap ((1:Int) * 2 ^ min (Int.toNat (u64.wrap (Int.tmod i (64:Int)))) u64.bits))),c2_3,c2_4)),
 (guardF (0 ≤ (u64.wrap (Int.tmod i (64:Int)))) <|
 go ((i64.wrap (i - (1:Int))),c2_1,c2_2,(bitsOf IntKind.u64 (fun p q=>p ||| q) c2_3 (u64.wrap ((1:Int) * 2 ^ min (Int.toNat (u64.wrap (Int.tmod i (64:Int)))) u64.bits))),c2_4)),
 (guardF (0 ≤ (u64.wrap (Int.tmod i (64:Int)))) <|
 go ((i64.wrap (i - (1:Int))),c2_1,c2_2,c2_3,(bitsOf IntKind.u64 (fun p q=>p ||| q) c2_4 (u64.wrap ((1:Int) * 2 ^ min (Int.toNat (u64.wrap (Int.tmod i (64:Int)))) u64.bits)))))]
 else
 go ((i64.wrap (i - (1:Int))),c2_1,c2_2,c2_3,c2_4)
 else
 some (c2_1,c2_2,c2_3,c2_4)
def f253 (a_Neg : Bool) (a_M_0:Int) (a_M_1:Int) (a_M_2:Int) (a_M_3:Int) (n:Int) : Option (Bool×Int×Int×Int×Int) :=
 bindF (loopF (fun go x=>f253_l1 a_M_0 a_M_1 a_M_2 a_M_3 n go x.1 x.2.1 x.2.2.1 x.2.2.2.1 x.2.2.2.2) fuelN ((255:Int),(0:Int),(0:Int),(0:Int),(0:Int))) fun z5 =>
 some (a_Neg,z5.1,z5.2.1,z5.2.2.1,z5.2.2.2)
def C253 : Con where
 X := Bool×Int×Int×Int×Int×Int
 Y := Bool×Int×Int×Int×Int
 e := 0
 args x := [.raw true [(.d .bool x.1),(.d T4 x.2.1),(.d T4 x.2.2.1),(.d T4 x.2.2.2.1),(.d T4 x.2.2.2.2.1)],.dat T2 x.2.2.2.2.2]
 hin x := []
 F x := f253 x.1 x.2.1 x.2.2.1 x.2.2.2.1 x.2.2.2.2.1 x.2.2.2.2.2
 ret y := [.raw true [(.d .bool y.1),(.d T4 y.2.1),(.d T4 y.2.2.1),(.d T4 y.2.2.2.1),(.d T4 y.2.2.2.2)]]
 hout y := []
 nout := 0
theorem C253_vc (a_Neg : Bool) (a_M_0:Int) (a_M_1:Int) (a_M_2:Int) (a_M_3:Int) (n:Int) (y : Bool×Int×Int×Int×Int) (q : f253 a_Neg a_M_0 a_M_1 a_M_2 a_M_3 n = some y) : VC Tryz.f253 C253 (a_Neg,a_M_0,a_M_1,a_M_2,a_M_3,n) y := by
 unfold f253 at q
 refine OL (OL (OL (OL (OL ?_))))
 obtain ⟨z5,hz5,q⟩ := bE q
 refine lI (Int×Int×Int×Int×Int) (Int×Int×Int×Int) (fun x=>⟨[(1,.dat T2 n),(2,P0 0 0),(4,P0 1 0),(5,P0 2 0),(6,.dat T2 x.1)],[(0,.cells [(.d .bool a_Neg),(.d T4 a_M_0),(.d T4 a_M_1),(.d T4 a_M_2),(.d T4 a_M_3)]),(1,.cells [(.d .bool false),(.d T4 (0:Int)),(.d T4 (0:Int)),(.d T4 (0:Int)),(.d T4 (0:Int))]),(2,.cells [(.d .bool a_Neg),(.d T4 x.2.1),(.d T4 x.2.2.1),(.d T4 x.2.2.2.1),(.d T4 x.2.2.2.2)])],3⟩) (fun z=>[(2,⟨[(4,P0 0 0),(5,P0 1 0)],[(0,.cells [(.d .bool false),(.d T4 (0:Int)),(.d T4 (0:Int)),(.d T4 (0:Int)),(.d T4 (0:Int))]),(1,.cells [(.d .bool a_Neg),(.d T4 z.1),(.d T4 z.2.1),(.d T4 z.2.2.1),(.d T4 z.2.2.2)])],2⟩)]) (loopF (fun go x=>f253_l1 a_M_0 a_M_1 a_M_2 a_M_3 n go x.1 x.2.1 x.2.2.1 x.2.2.2.1 x.2.2.2.2)) fuelN ((255:Int),(0:Int),(0:Int),(0:Int),(0:Int)) z5 (AI hz5 (AI (E4 I3 (R3 (AI (R3 TV) (R3 TV)))) (AI (fun _ _ h=>lZ h) (AI (fun m=>curI (fun i=>curI (fun c2_1=>curI (fun c2_2=>curI (fun c2_3=>fun c2_4 z q=>?_))))) ?_))))
 ·have q : f253_l1 a_M_0 a_M_1 a_M_2 a_M_3 n (loopF (fun go x=>f253_l1 a_M_0 a_M_1 a_M_2 a_M_3 n go x.1 x.2.1 x.2.2.1 x.2.2.2.1 x.2.2.2.2) m) i c2_1 c2_2 c2_3 c2_4 = some z := q
  unfold f253_l1 at q
  refine OL (OL (cI q (fun q=>?_) (fun q=>?_)))
  ·refine OL (OL ?_)
   obtain ⟨r6,hr6,q⟩ := bE q
   refine OL (AI f181_in (cV (cQ C181 (a_M_0,a_M_1,a_M_2,a_M_3,(i64.wrap (i - n))) r6 [] false C181_holds hr6 rfl rfl (AI rfl (AI NH (R2 (AJ (AI TV (cI q (fun q=>?_) (fun q=>?_))))))))))
   ·refine AI (by decide) (AI (by decide) (gI q (fun q=>?_)))
    refine AI (fun hk7=>?_) ?_
    ·have q := pickE q hk7
     dsimp only [nthO] at q
     refine AI (by decide) (gI q (fun q=>?_))
     refine AI (rE hk7 (by decide)) (AI (fun _=>?_) (AI (fun h=>absurd (hk7.symm.trans h) (by decide)) (AI (fun h=>absurd (hk7.symm.trans h) (by decide)) (AI (fun h=>absurd (hk7.symm.trans h) (by decide)) TV))))
     refine OL (EI ((i64.wrap (i - (1:Int))),(bitsOf IntKind.u64 (fun p q=>p ||| q) c2_1 (u64.wrap ((1:Int) * 2 ^ min (Int.toNat (u64.wrap (Int.tmod i (64:Int)))) u64.bits))),c2_2,c2_3,c2_4) (AI q (E4 I3 (R3 (AI (R3 TV) (R3 TV))))))
    refine AI (fun hk7=>?_) ?_
    ·have q := pickE q hk7
     dsimp only [nthO] at q
     refine AI (by decide) (gI q (fun q=>?_))
     refine AI (rE hk7 (by decide)) (AI (fun h=>absurd (hk7.symm.trans h) (by decide)) ?_)
     refine AI (fun _=>?_) (AI (fun h=>absurd (hk7.symm.trans h) (by decide)) (AI (fun h=>absurd (hk7.symm.trans h) (by decide)) TV))
     refine OL (EI ((i64.wrap (i - (1:Int))),c2_1,(bitsOf IntKind.u64 (fun p q=>p ||| q) c2_2 (u64.wrap ((1:Int) * 2 ^ min (Int.toNat (u64.wrap (Int.tmod i (64:Int)))) u64.bits))),c2_3,c2_4) (AI q (E4 I3 (R3 (AI (R3 TV) (R3 TV))))))
    refine AI (fun hk7=>?_) ?_
    ·have q := pickE q hk7
     dsimp only [nthO] at q
     refine AI (by decide) (gI q (fun q=>?_))
     refine AI (rE hk7 (by decide)) (AI (fun h=>absurd (hk7.symm.trans h) (by decide)) ?_)
     refine AI (fun h=>absurd (hk7.symm.trans h) (by decide)) ?_
     refine AI (fun _=>?_) (AI (fun h=>absurd (hk7.symm.trans h) (by decide)) TV)
     refine OL (EI ((i64.wrap (i - (1:Int))),c2_1,c2_2,(bitsOf IntKind.u64 (fun p q=>p ||| q) c2_3 (u64.wrap ((1:Int) * 2 ^ min (Int.toNat (u64.wrap (Int.tmod i (64:Int)))) u64.bits))),c2_4) (AI q (E4 I3 (R3 (AI (R3 TV) (R3 TV))))))
    refine AI (fun hk7=>?_) TV
    have q := pickE q hk7
    dsimp only [nthO] at q
    refine AI (by decide) (gI q (fun q=>?_))
    refine AI (rE hk7 (by decide)) (AI (fun h=>absurd (hk7.symm.trans h) (by decide)) ?_)
    refine AI (fun h=>absurd (hk7.symm.trans h) (by decide)) ?_
    refine AI (fun h=>absurd (hk7.symm.trans h) (by decide)) ?_
    refine AI (fun _=>?_) TV
    refine OL (EI ((i64.wrap (i - (1:Int))),c2_1,c2_2,c2_3,(bitsOf IntKind.u64 (fun p q=>p ||| q) c2_4 (u64.wrap ((1:Int) * 2 ^ min (Int.toNat (u64.wrap (Int.tmod i (64:Int)))) u64.bits)))) (AI q (E4 I3 (R3 (AI (R3 TV) (R3 TV))))))
   refine EI ((i64.wrap (i - (1:Int))),c2_1,c2_2,c2_3,c2_4) (AI q (E4 I3 (R3 (AI (R3 TV) (R3 TV)))))
  cases sE q
  refine E4 [(0,some 1),(1,some 2)] (AI rfl (AI (R2 TV) (R2 TV)))
 refine AI (OL (OL ?_)) TV
 cases sE q
 refine AI rfl (E4 [] (AI rfl (AJ TV)))
theorem C253_holds : HP C253 253 := hH Tryz.f253 (by kernel_rfl) rfl (fun x y q=>C253_vc x.1 x.2.1 x.2.2.1 x.2.2.2.1 x.2.2.2.2.1 x.2.2.2.2.2 y q)
theorem f253_in : InP 253 := inP (by kernel_rfl)
def f239 (n:Int) : Option Int :=
 bindF (f87 n) fun r1 =>
 bindF (f253 r1.1 r1.2 (0:Int) (0:Int) (0:Int) (32:Int)) fun r2 =>
 bindF (f120 r2.1 r2.2.1 r2.2.2.1 r2.2.2.2.1 r2.2.2.2.2) fun r3 =>
 some r3
def C239 : Con where
 X := Int
 Y := Int
 e := 0
 args x := [.dat T2 x]
 hin x := []
 F x := f239 x
 ret y := [.dat T2 y]
 hout y := []
 nout := 0
theorem C239_vc (n:Int) (y:Int) (q : f239 n = some y) : VC Tryz.f239 C239 n y := by
 unfold f239 at q
 refine OL (OL ?_)
 obtain ⟨r1,hr1,q⟩ := bE q
 refine OL (AI f87_in (cV (cQ C87 n r1 [] false C87_holds hr1 rfl rfl (AI rfl (K0 ?_)))))
 obtain ⟨r2,hr2,q⟩ := bE q
 refine OL (AI f253_in (cV (cQ C253 (r1.1,r1.2,(0:Int),(0:Int),(0:Int),(32:Int)) r2 [] false C253_holds hr2 rfl rfl (AI rfl (AI NH (R2 (AJ (AI TV ?_))))))))
 obtain ⟨r3,hr3,q⟩ := bE q
 refine OL (AI f120_in (cV (cQ C120 (r2.1,r2.2.1,r2.2.2.1,r2.2.2.2.1,r2.2.2.2.2) r3 [] false C120_holds hr3 rfl rfl (AI NH (R2 (AJ (AI TV ?_)))))))
 cases sE q
 refine AI rfl (E4 [] (R2 (AI TV TV)))
theorem C239_holds : HP C239 239 := hH Tryz.f239 (by kernel_rfl) rfl (fun x y q=>C239_vc x y q)
theorem f239_in : InP 239 := inP (by kernel_rfl)
def f196 (neg : Bool) (none_ : Bool) : Option Int :=
 bif none_ then
 some (0:Int)
 else
 bif neg then
 some (-9223372036854775808:Int)
 else
 some (9223372036854775807:Int)
def C196 : Con where
 X := Bool×Bool
 Y := Int
 e := 0
 args x := [.dat .bool x.1,.dat .bool x.2]
 hin x := []
 F x := f196 x.1 x.2
 ret y := [.dat T2 y]
 hout y := []
 nout := 0
theorem C196_vc (neg : Bool) (none_ : Bool) (y:Int) (q : f196 neg none_ = some y) : VC Tryz.f196 C196 (neg,none_) y := by
 unfold f196 at q
 refine OL (OL (OL (cI q (fun q=>?_) (fun q=>?_))))
 ·cases sE q
  refine OL (AI rfl (E4 [] (R2 (AI TV TV))))
 refine OL (cI q (fun q=>?_) (fun q=>?_))
 ·cases sE q
  refine OL (AI rfl (E4 [] (R2 (AI TV TV))))
 cases sE q
 refine OL (AI rfl (E4 [] (R2 (AI TV TV))))
theorem C196_holds : HP C196 196 := hH Tryz.f196 (by kernel_rfl) rfl (fun x y q=>C196_vc x.1 x.2 y q)
theorem f196_in : InP 196 := inP (by kernel_rfl)
def f238 (a:Int) (b:Int) : Option Int :=
 bif (b == (0:Int)) then
 bindF (f196 (decide (a < (0:Int))) (a == (0:Int))) fun r1 =>
 some r1
 else
 bindF (f87 a) fun r2 =>
 bindF (f253 r2.1 r2.2 (0:Int) (0:Int) (0:Int) (32:Int)) fun r3 =>
 bindF (f121 r3.1 r3.2.1 r3.2.2.1 r3.2.2.2.1 r3.2.2.2.2 b) fun r4 =>
 bindF (f120 r4.1 r4.2.1 r4.2.2.1 r4.2.2.2.1 r4.2.2.2.2) fun r5 =>
 some r5
def C238 : Con where
 X := Int×Int
 Y := Int
 e := 0
 args x := [.dat T2 x.1,.dat T2 x.2]
 hin x := []
 F x := f238 x.1 x.2
 ret y := [.dat T2 y]
 hout y := []
 nout := 0
theorem C238_vc (a:Int) (b:Int) (y:Int) (q : f238 a b = some y) : VC Tryz.f238 C238 (a,b) y := by
 unfold f238 at q
 refine OL (OL (OL (cI q (fun q=>?_) (fun q=>?_))))
 ·refine OL ?_
  obtain ⟨r1,hr1,q⟩ := bE q
  refine OL (AI f196_in (cV (cQ C196 ((decide (a < (0:Int))),(a == (0:Int))) r1 [] false C196_holds hr1 rfl rfl (R2 (K0 ?_)))))
  cases sE q
  refine AI rfl (E4 [] (R2 (AI TV TV)))
 refine OL ?_
 obtain ⟨r2,hr2,q⟩ := bE q
 refine OL (AI f87_in (cV (cQ C87 a r2 [] false C87_holds hr2 rfl rfl (AI rfl (K0 ?_)))))
 obtain ⟨r3,hr3,q⟩ := bE q
 refine OL (AI f253_in (cV (cQ C253 (r2.1,r2.2,(0:Int),(0:Int),(0:Int),(32:Int)) r3 [] false C253_holds hr3 rfl rfl (AI rfl (AI NH (R2 (AJ (AI TV ?_))))))))
 obtain ⟨r4,hr4,q⟩ := bE q
 refine OL (AI f121_in (cV (cQ C121 (r3.1,r3.2.1,r3.2.2.1,r3.2.2.2.1,r3.2.2.2.2,b) r4 [] false C121_holds hr4 rfl rfl (AI rfl (AI NH (R2 (AJ (AI TV ?_))))))))
 obtain ⟨r5,hr5,q⟩ := bE q
 refine OL (AI f120_in (cV (cQ C120 (r4.1,r4.2.1,r4.2.2.1,r4.2.2.2.1,r4.2.2.2.2) r5 [] false C120_holds hr5 rfl rfl (AI NH (R2 (AJ (AI TV ?_)))))))
 cases sE q
 refine AI rfl (E4 [] (R2 (AI TV TV)))
theorem C238_holds : HP C238 238 := hH Tryz.f238 (by kernel_rfl) rfl (fun x y q=>C238_vc x.1 x.2 y q)
theorem f238_in : InP 238 := inP (by kernel_rfl)
def f240 (a:Int) : Option Int :=
 bindF (f130 (0:Int) a) fun r1 =>
 some r1
def C240 : Con where
 X := Int
 Y := Int
 e := 0
 args x := [.dat T2 x]
 hin x := []
 F x := f240 x
 ret y := [.dat T2 y]
 hout y := []
 nout := 0
theorem C240_vc (a:Int) (y:Int) (q : f240 a = some y) : VC Tryz.f240 C240 a y := by
 unfold f240 at q
 refine OL (OL ?_)
 obtain ⟨r1,hr1,q⟩ := bE q
 refine OL (AI f130_in (cV (cQ C130 ((0:Int),a) r1 [] false C130_holds hr1 rfl rfl (R2 (K0 ?_)))))
 cases sE q
 refine AI rfl (E4 [] (R2 (AI TV TV)))
theorem C240_holds : HP C240 240 := hH Tryz.f240 (by kernel_rfl) rfl (fun x y q=>C240_vc x y q)
theorem f240_in : InP 240 := inP (by kernel_rfl)
def f208 (kind:Int) (x_:Int) : Option Int :=
 bif (kind == (1:Int)) then
 bif (decide (x_ < (0:Int))) then
 some (0:Int)
 else
 some x_
 else
 bif (kind == (2:Int)) then
 bif (decide (x_ > (0:Int))) then
 some x_
 else
 bindF (f239 (8:Int)) fun r1 =>
 bindF (f238 x_ r1) fun r2 =>
 some r2
 else
 bif (kind == (3:Int)) then
 bif (decide (x_ > (4294967296:Int))) then
 some (4294967296:Int)
 else
 bif (decide (x_ < (-4294967296:Int))) then
 some (-4294967296:Int)
 else
 some x_
 else
 bif (kind == (4:Int)) then
 bif (decide (x_ < (0:Int))) then
 bindF (f240 x_) fun r3 =>
 some r3
 else
 some x_
 else
 bindF (f239 (2:Int)) fun r4 =>
 bindF (f238 x_ r4) fun r5 =>
 bindF (f129 r5 (2147483648:Int)) fun r6 =>
 bif (decide (r6 < (0:Int))) then
 some (0:Int)
 else
 bif (decide (r6 > (4294967296:Int))) then
 some (4294967296:Int)
 else
 some r6
def C208 : Con where
 X := Int×Int
 Y := Int
 e := 0
 args x := [.dat T2 x.1,.dat T2 x.2]
 hin x := []
 F x := f208 x.1 x.2
 ret y := [.dat T2 y]
 hout y := []
 nout := 0
theorem C208_vc (kind:Int) (x_:Int) (y:Int) (q : f208 kind x_ = some y) : VC Tryz.f208 C208 (kind,x_) y := by
 unfold f208 at q
 refine OL (OL (OL (OL (cI q (fun q=>?_) (fun q=>?_)))))
 ·refine OL (OL (cI q (fun q=>?_) (fun q=>?_)))
  ·cases sE q
   refine OL (AI rfl (E4 [] (R2 (AI TV TV))))
  cases sE q
  refine OL (AI rfl (E4 [] (R2 (AI TV TV))))
 refine OL (cI q (fun q=>?_) (fun q=>?_))
 ·refine OL (OL (cI q (fun q=>?_) (fun q=>?_)))
  ·cases sE q
   refine OL (AI rfl (E4 [] (R2 (AI TV TV))))
  refine OL ?_
  obtain ⟨r1,hr1,q⟩ := bE q
  refine OL (AI f239_in (cV (cQ C239 (8:Int) r1 [] false C239_holds hr1 rfl rfl (AI rfl (K0 ?_)))))
  obtain ⟨r2,hr2,q⟩ := bE q
  refine OL (AI f238_in (cV (cQ C238 (x_,r1) r2 [] false C238_holds hr2 rfl rfl (R2 (K0 ?_)))))
  cases sE q
  refine AI rfl (E4 [] (R2 (AI TV TV)))
 refine OL (cI q (fun q=>?_) (fun q=>?_))
 ·refine OL (OL (cI q (fun q=>?_) (fun q=>?_)))
  ·cases sE q
   refine OL (AI rfl (E4 [] (R2 (AI TV TV))))
  refine OL (OL (cI q (fun q=>?_) (fun q=>?_)))
  ·cases sE q
   refine OL (AI rfl (E4 [] (R2 (AI TV TV))))
  cases sE q
  refine OL (AI rfl (E4 [] (R2 (AI TV TV))))
 refine OL (cI q (fun q=>?_) (fun q=>?_))
 ·refine OL (OL (cI q (fun q=>?_) (fun q=>?_)))
  ·refine OL ?_
   obtain ⟨r3,hr3,q⟩ := bE q
   refine OL (AI f240_in (cV (cQ C240 x_ r3 [] false C240_holds hr3 rfl rfl (AI rfl (K0 ?_)))))
   cases sE q
   refine AI rfl (E4 [] (R2 (AI TV TV)))
  cases sE q
  refine OL (AI rfl (E4 [] (R2 (AI TV TV))))
 refine OL ?_
 obtain ⟨r4,hr4,q⟩ := bE q
 refine OL (AI f239_in (cV (cQ C239 (2:Int) r4 [] false C239_holds hr4 rfl rfl (AI rfl (K0 ?_)))))
 obtain ⟨r5,hr5,q⟩ := bE q
 refine OL (AI f238_in (cV (cQ C238 (x_,r4) r5 [] false C238_holds hr5 rfl rfl (R2 (K0 ?_)))))
 obtain ⟨r6,hr6,q⟩ := bE q
 refine OL (AI f129_in (cV (cQ C129 (r5,(2147483648:Int)) r6 [] false C129_holds hr6 rfl rfl (R2 (K0 (OL (OL (cI q (fun q=>?_) (fun q=>?_)))))))))
 ·cases sE q
  refine OL (AI rfl (E4 [] (R2 (AI TV TV))))
 refine OL (OL (cI q (fun q=>?_) (fun q=>?_)))
 ·cases sE q
  refine OL (AI rfl (E4 [] (R2 (AI TV TV))))
 cases sE q
 refine OL (AI rfl (E4 [] (R2 (AI TV TV))))
theorem C208_holds : HP C208 208 := hH Tryz.f208 (by kernel_rfl) rfl (fun x y q=>C208_vc x.1 x.2 y q)
theorem f208_in : InP 208 := inP (by kernel_rfl)
def f160_j3 (kind:Int) (t : LI×LI) : Option Bool :=
 bif (decide (kind < (1:Int))) then
 some true
 else
 bif (decide (kind > (5:Int))) then
 some true
 else
 bindF (f62 (t.1,t.2)) fun r6 =>
 some (!r6)
def f160_j2 (kind:Int) (t : LI×LI) : Option (Sum Unit Unit) :=
 bindF (f160_j3 kind t) fun z5 =>
 bif z5 then
 some (Sum.inr ())
 else
 some (Sum.inl ())
def f160_l4 (kind:Int) (t : LI×LI) (go : (Int×LI) → Option LI) (i:Int) (l4 : LI) : Option LI :=
 bif (decide (i < (List.length l4:Int))) then
 guardF (0 ≤ i ∧ i < (List.length t.2:Int)) <|
 bindF (f208 kind (rd (0:Int) t.2 i)) fun q7_9 =>
 guardF (0 ≤ i ∧ i < (List.length l4:Int)) <|
 go ((i64.wrap (i + (1:Int))),(List.set l4 (Int.toNat i) q7_9))
 else
 some l4
def f160 (kind:Int) (t : LI×LI) : Option (Int×LI×LI) :=
 bindF (f160_j2 kind t) fun z3 =>
 sumF z3 (fun z3a =>
 bindF (f71 t.1 (0:Int)) fun r7 =>
 bindF (loopF (fun go x=>f160_l4 kind t go x.1 x.2) fuelN ((0:Int),r7.2)) fun z8 =>
 some ((0:Int),r7.1,z8)) (fun z3b =>
 some ((1:Int),[],[]))
def C160 : Con where
 X := Int×(LI×LI)
 Y := Int×LI×LI
 e := 0
 args x := [.dat T2 x.1,.dat T3 x.2]
 hin x := []
 F x := f160 x.1 x.2
 ret y := [.raw true [(.osl 0),(.osl 1)],.dat T2 y.1]
 hout y := [(0,.arr 3 T2 y.2.1),(1,.arr 40 T2 y.2.2)]
 nout := 2
theorem C160_vc (kind:Int) (t : LI×LI) (y : Int×LI×LI) (q : f160 kind t = some y) : VC Tryz.f160 C160 (kind,t) y := by
 unfold f160 at q
 refine OL ?_
 obtain ⟨z3,hz3,q⟩ := bE q
 refine OQ ⟨Sum.elim (fun z3a=>[(0,⟨[(0,.dat T2 kind),(3,P0 0 0),(4,P0 1 0)],[(0,.cells [(.d T1 t.1),(.d T1 t.2)]),(1,.cells [N0,N0])],2⟩)]) (fun z3b=>[(1,⟨[(4,P0 0 0),(5,D0 1)],[(0,.cells [N0,N0])],1⟩)]) z3,?_,?_⟩
 ·have q := hz3
  clear hz3
  unfold f160_j2 at q
  obtain ⟨z5,hz5,q⟩ := bE q
  refine OQ ⟨[(0,⟨[(0,.dat T2 kind),(3,P0 0 0),(4,P0 1 0),(18,.dat .bool z5)],[(0,.cells [(.d T1 t.1),(.d T1 t.2)]),(1,.cells [N0,N0])],2⟩)],?_,?_⟩
  ·have q := hz5
   clear hz5
   unfold f160_j3 at q
   refine cN q (fun q=>?_) (fun q=>?_)
   ·refine gY (cF (cN q (fun q=>?_) (fun q=>?_)))
    ·refine gY ?_
     obtain ⟨r6,hr6,q⟩ := bE q
     refine OL (AI f62_in (cV (cQ C62 (t.1,t.2) r6 [] false C62_holds hr6 rfl rfl (R2 (K0 (gY (cF ?_)))))))
     cases sE q
     refine E4 I2 (R3 (AI (R2 TV) (R2 TV)))
    refine gN (gN (cT ?_))
    cases sE q
    refine E4 I2 (R3 (AI (R2 TV) (R2 TV)))
   refine gN (cT (gN (gN (gN (cT ?_)))))
   cases sE q
   refine E4 I2 (R3 (AI (R2 TV) (R2 TV)))
  refine AI (cI q (fun q=>?_) (fun q=>?_)) TV
  ·refine OL (OL ?_)
   cases sE q
   refine E4 [(0,some 1)] (R2 (AJ (AI rfl TV)))
  cases sE q
  refine E4 I2 (R2 (AI (R2 TV) (R2 TV)))
 rcases z3 with z3a | z3b
 ·dsimp only [sumF] at q
  refine AI (OL ?_) TV
  obtain ⟨r7,hr7,q⟩ := bE q
  refine OL (AI f71_in (cV (cQ C71 (t.1,(0:Int)) r7 [] false C71_holds hr7 rfl rfl (R2 (K0 (OL (OL (OL ?_))))))))
  obtain ⟨z8,hz8,q⟩ := bE q
  refine lI (Int×LI) LI (fun x=>⟨[(0,.dat T2 kind),(3,P0 0 0),(4,P0 1 0),(6,P0 2 0),(7,.dat T2 x.1)],[(0,.cells [(.d T1 t.1),(.d T1 t.2)]),(1,.cells [N0,N0]),(2,.cells [(.osl 3),(.osl 4)]),(3,.arr 3 T2 r7.1),(4,.arr 40 T2 x.2)],5⟩) (fun z=>[(2,⟨[(4,P0 0 0),(6,P0 1 0)],[(0,.cells [N0,N0]),(1,.cells [(.osl 2),(.osl 3)]),(2,.arr 3 T2 r7.1),(3,.arr 40 T2 z)],4⟩)]) (loopF (fun go x=>f160_l4 kind t go x.1 x.2)) fuelN ((0:Int),r7.2) z8 (AI hz8 (AI (E4 [(0,some 0),(1,some 1),(2,some 4),(3,some 2),(4,some 3)] (R3 (AI (R3 TV) (R5 TV)))) (AI (fun _ _ h=>lZ h) (AI (fun m=>curI (fun i=>fun l4 z q=>?_)) ?_))))
  ·have q : f160_l4 kind t (loopF (fun go x=>f160_l4 kind t go x.1 x.2) m) i l4 = some z := q
   unfold f160_l4 at q
   refine OL (OL (cI q (fun q=>?_) (fun q=>?_)))
   ·refine OL (EI (.take 0 (.take 1 (.take 2 (.take 3 (.take 4 (.take 5 (.take 6 (.take 7 (.take 8 (.alt 9 (.take 10 (.alt 11 .done .done)) .done)))))))))) (EI [] (EI [] (AI rfl (gI q (fun q=>?_))))))
    refine AI TV ?_
    obtain ⟨q7_9,hq7_9,q⟩ := bE q
    refine OL (AI f208_in (cV (cQ C208 (kind,(rd (0:Int) t.2 i)) q7_9 [] false C208_holds hq7_9 rfl rfl (R2 (K0 (gI q (fun q=>?_)))))))
    refine AI TV (OL (EI ((i64.wrap (i + (1:Int))),(List.set l4 (Int.toNat i) q7_9)) (AI q (E4 I5 (R3 (AI (R3 TV) (R5 TV)))))))
   cases sE q
   refine E4 [(0,some 1),(1,some 2),(2,some 3),(3,some 4)] (AI rfl (AI (R2 TV) (R4 TV)))
  refine AI (OL (OL ?_)) TV
  cases sE q
  refine AI rfl (E4 [(0,some 2),(1,some 3)] (R2 (AJ (R2 TV))))
 dsimp only [sumF] at q
 refine AI ?_ TV
 cases sE q
 refine AI rfl (E4 [(0,none),(1,none)] (R2 (AJ (R2 TV))))
theorem C160_holds : HP C160 160 := hH Tryz.f160 (by kernel_rfl) rfl (fun x y q=>C160_vc x.1 x.2 y q)
theorem f160_in : InP 160 := inP (by kernel_rfl)
def f161 (a : LI×LI) (k : LI×LI) (step:Int) : Option (Int×LI×LI) :=
 none
def C161 : Con where
 X := (LI×LI)×(LI×LI)×Int
 Y := Int×LI×LI
 e := 0
 args x := [.dat T3 x.1,.dat T3 x.2.1,.dat T2 x.2.2]
 hin x := []
 F x := f161 x.1 x.2.1 x.2.2
 ret y := [.raw true [(.osl 0),(.osl 1)],.dat T2 y.1]
 hout y := [(0,.arr 3 T2 y.2.1),(1,.arr 40 T2 y.2.2)]
 nout := 2
theorem C161_vc (a : LI×LI) (k : LI×LI) (step:Int) (y : Int×LI×LI) (q : f161 a k step = some y) : VC Tryz.f161 C161 (a,k,step) y := by
 unfold f161 at q
 exact nomatch q
theorem C161_holds : HP C161 161 := hH Tryz.f161 (by kernel_rfl) rfl (fun x y q=>C161_vc x.1 x.2.1 x.2.2 y q)
theorem f161_in : InP 161 := inP (by kernel_rfl)
def f125 (a : LI×LI) (w:Int) : Option (Int×LI×LI×LI) :=
 none
def C125 : Con where
 X := (LI×LI)×Int
 Y := Int×LI×LI×LI
 e := 0
 args x := [.dat T3 x.1,.dat T2 x.2]
 hin x := []
 F x := f125 x.1 x.2
 ret y := [.raw true [(.osl 0),(.osl 1)],O0 2,.dat T2 y.1]
 hout y := [(0,.arr 3 T2 y.2.1),(1,.arr 40 T2 y.2.2.1),(2,.arr 3 T2 y.2.2.2)]
 nout := 3
theorem C125_vc (a : LI×LI) (w:Int) (y : Int×LI×LI×LI) (q : f125 a w = some y) : VC Tryz.f125 C125 (a,w) y := by
 unfold f125 at q
 exact nomatch q
theorem C125_holds : HP C125 125 := hH Tryz.f125 (by kernel_rfl) rfl (fun x y q=>C125_vc x.1 x.2 y q)
theorem f125_in : InP 125 := inP (by kernel_rfl)
def f126 (a : LI×LI) (d : LI) : Option (Int×LI×LI) :=
 none
def C126 : Con where
 X := (LI×LI)×LI
 Y := Int×LI×LI
 e := 0
 args x := [.dat T3 x.1,.dat T1 x.2]
 hin x := []
 F x := f126 x.1 x.2
 ret y := [.raw true [(.osl 0),(.osl 1)],.dat T2 y.1]
 hout y := [(0,.arr 3 T2 y.2.1),(1,.arr 40 T2 y.2.2)]
 nout := 2
theorem C126_vc (a : LI×LI) (d : LI) (y : Int×LI×LI) (q : f126 a d = some y) : VC Tryz.f126 C126 (a,d) y := by
 unfold f126 at q
 exact nomatch q
theorem C126_holds : HP C126 126 := hH Tryz.f126 (by kernel_rfl) rfl (fun x y q=>C126_vc x.1 x.2 y q)
theorem f126_in : InP 126 := inP (by kernel_rfl)
def f109_j4 (op:Int) : Option Bool :=
 bif (op == (2:Int)) then
 some (op == (2:Int))
 else
 bif (op == (3:Int)) then
 some (op == (3:Int))
 else
 some (op == (4:Int))
def f109_j5 (a : LI×LI) (k:Int) : Option (Int×LI×LI) :=
 bindF (f156 k) fun q23_2 =>
 bindF (f125 (a.1,a.2) q23_2) fun q23_3 =>
 some (q23_3.1,q23_3.2.1,q23_3.2.2.1)
def f109_j3 (op:Int) (a : LI×LI) (b : LI×LI) (k:Int) : Option (Sum Unit (Int×LI×LI)) :=
 bindF (f109_j4 op) fun z11 =>
 bif z11 then
 bindF (f77 (i64.wrap (op - (2:Int))) (a.1,a.2) (b.1,b.2)) fun q23_11 =>
 some (Sum.inr (q23_11.1,q23_11.2.1,q23_11.2.2))
 else
 bif (op == (5:Int)) then
 bindF (f115 (a.1,a.2) k) fun r12 =>
 some (Sum.inr (r12.1,r12.2.1,r12.2.2))
 else
 bif (op == (6:Int)) then
 bindF (f117 (a.1,a.2) (b.1,b.2)) fun r13 =>
 some (Sum.inr (r13.1,r13.2.1,r13.2.2))
 else
 bif (op == (7:Int)) then
 bindF (f116 (a.1,a.2)) fun r14 =>
 some (Sum.inr (r14.1,r14.2.1,r14.2.2))
 else
 bif (op == (8:Int)) then
 bindF (f156 k) fun q13_2 =>
 bindF (f155 (a.1,a.2) q13_2) fun q13_3 =>
 some (Sum.inr (q13_3.1,q13_3.2.1,q13_3.2.2))
 else
 bif (op == (9:Int)) then
 bindF (f158 (a.1,a.2)) fun q13_7 =>
 bindF (f157 q13_7) fun r15 =>
 some (Sum.inr ((0:Int),r15.1,r15.2))
 else
 bif (op == (10:Int)) then
 bindF (f159 (a.1,a.2)) fun r16 =>
 bindF (f157 r16) fun r17 =>
 some (Sum.inr ((0:Int),r17.1,r17.2))
 else
 bif (op == (11:Int)) then
 bindF (f156 k) fun q19_1 =>
 bindF (f160 q19_1 (a.1,a.2)) fun q19_3 =>
 some (Sum.inr (q19_3.1,q19_3.2.1,q19_3.2.2))
 else
 bif (op == (12:Int)) then
 bindF (f156 k) fun q21_3 =>
 bindF (f161 (a.1,a.2) (b.1,b.2) q21_3) fun q21_4 =>
 some (Sum.inr (q21_4.1,q21_4.2.1,q21_4.2.2))
 else
 bif (op == (13:Int)) then
 bindF (f109_j5 a k) fun z18 =>
 some (Sum.inr (z18.1,z18.2.1,z18.2.2))
 else
 some (Sum.inl ())
def f109 (op:Int) (a : LI×LI) (b : LI×LI) (k:Int) : Option (Int×LI×LI) :=
 bindF (f109_j3 op a b k) fun z10 =>
 sumF z10 (fun z10a =>
 bindF (f126 (a.1,a.2) ([(List.length a.2:Int)])) fun r19 =>
 some (r19.1,r19.2.1,r19.2.2)) (fun z10b =>
 some (z10b.1,z10b.2.1,z10b.2.2))
def C109 : Con where
 X := Int×(LI×LI)×(LI×LI)×Int
 Y := Int×LI×LI
 e := 0
 args x := [.dat T2 x.1,.dat T3 x.2.1,.dat T3 x.2.2.1,.dat T2 x.2.2.2]
 hin x := []
 F x := f109 x.1 x.2.1 x.2.2.1 x.2.2.2
 ret y := [.raw true [(.osl 0),(.osl 1)],.dat T2 y.1]
 hout y := [(0,.arr 3 T2 y.2.1),(1,.arr 40 T2 y.2.2)]
 nout := 2
theorem C109_vc (op:Int) (a : LI×LI) (b : LI×LI) (k:Int) (y : Int×LI×LI) (q : f109 op a b k = some y) : VC Tryz.f109 C109 (op,a,b,k) y := by
 unfold f109 at q
 refine OL ?_
 obtain ⟨z10,hz10,q⟩ := bE q
 refine OQ ⟨Sum.elim (fun z10a=>[(0,⟨[(5,P0 0 0),(8,P0 1 0)],[(0,.cells [(.d T1 a.1),(.d T1 a.2)]),(1,.cells [N0,N0])],2⟩)]) (fun z10b=>[(1,⟨[(8,P0 0 0),(9,.dat T2 z10b.1)],[(0,.cells [(.osl 1),(.osl 2)]),(1,.arr 3 T2 z10b.2.1),(2,.arr 40 T2 z10b.2.2)],3⟩)]) z10,?_,?_⟩
 ·have q := hz10
  clear hz10
  unfold f109_j3 at q
  refine OL ?_
  obtain ⟨z11,hz11,q⟩ := bE q
  refine OQ ⟨[(0,⟨[(0,.dat T2 op),(3,.dat T2 k),(5,P0 0 0),(6,P0 1 0),(8,P0 2 0),(13,.dat T2 op),(14,.dat .bool z11)],[(0,.cells [(.d T1 a.1),(.d T1 a.2)]),(1,.cells [(.d T1 b.1),(.d T1 b.2)]),(2,.cells [N0,N0])],3⟩)],?_,?_⟩
  ·have q := hz11
   clear hz11
   unfold f109_j4 at q
   refine OL (cI q (fun q=>?_) (fun q=>?_))
   ·cases sE q
    refine E4 I3 (R5 (AI (R3 TV) (R3 TV)))
   refine OL (cI q (fun q=>?_) (fun q=>?_))
   ·cases sE q
    refine E4 I3 (R5 (AI (R3 TV) (R3 TV)))
   cases sE q
   refine E4 I3 (R5 (AI (R3 TV) (R3 TV)))
  refine AI (cI q (fun q=>?_) (fun q=>?_)) TV
  ·refine OL ?_
   obtain ⟨q23_11,hq23_11,q⟩ := bE q
   refine OL (AI f77_in (cV (cQ C77 ((i64.wrap (op - (2:Int))),(a.1,a.2),(b.1,b.2)) q23_11 [] false C77_holds hq23_11 rfl rfl (R5 (K0 (OL ?_))))))
   cases sE q
   refine E4 [(0,some 2),(1,some 3),(2,some 4)] (R2 (AJ (R3 TV)))
  refine OL (cI q (fun q=>?_) (fun q=>?_))
  ·refine OL ?_
   obtain ⟨r12,hr12,q⟩ := bE q
   refine OL (AI f115_in (cV (cQ C115 ((a.1,a.2),k) r12 [] false C115_holds hr12 rfl rfl (R3 (K0 (OL ?_))))))
   cases sE q
   refine E4 [(0,some 2),(1,some 3),(2,some 4)] (R2 (AJ (R3 TV)))
  refine OL (cI q (fun q=>?_) (fun q=>?_))
  ·refine OL ?_
   obtain ⟨r13,hr13,q⟩ := bE q
   refine OL (AI f117_in (cV (cQ C117 ((a.1,a.2),(b.1,b.2)) r13 [] false C117_holds hr13 rfl rfl (R4 (K0 (OL ?_))))))
   cases sE q
   refine E4 [(0,some 2),(1,some 3),(2,some 4)] (R2 (AJ (R3 TV)))
  refine OL (cI q (fun q=>?_) (fun q=>?_))
  ·refine OL ?_
   obtain ⟨r14,hr14,q⟩ := bE q
   refine OL (AI f116_in (cV (cQ C116 (a.1,a.2) r14 [] false C116_holds hr14 rfl rfl (R2 (K0 (OL ?_))))))
   cases sE q
   refine E4 [(0,some 2),(1,some 3),(2,some 4)] (R2 (AJ (R3 TV)))
  refine OL (cI q (fun q=>?_) (fun q=>?_))
  ·refine OL (EI (.take 0 (.take 1 (.alt 2 (.alt 3 (.take 4 (.take 5 (.alt 6 (.take 7 .done) .done))) .done) .done))) (EI [] (EI [] (AI rfl (AI TV ?_)))))
   obtain ⟨q13_2,hq13_2,q⟩ := bE q
   refine OL (AI f156_in (cV (cQ C156 k q13_2 [] false C156_holds hq13_2 rfl rfl (AI rfl (K0 (AI TV ?_))))))
   obtain ⟨q13_3,hq13_3,q⟩ := bE q
   refine OL (AI f155_in (cV (cQ C155 ((a.1,a.2),q13_2) q13_3 [] false C155_holds hq13_3 rfl rfl (R3 (K0 (AI TV (OL ?_)))))))
   cases sE q
   refine E4 [(0,some 2),(1,some 3),(2,some 4)] (R2 (AJ (R3 TV)))
  refine OL (cI q (fun q=>?_) (fun q=>?_))
  ·refine OL ?_
   obtain ⟨q13_7,hq13_7,q⟩ := bE q
   refine OL (AI f158_in (cV (cQ C158 (a.1,a.2) q13_7 [] false C158_holds hq13_7 rfl rfl (R2 (K0 ?_)))))
   obtain ⟨r15,hr15,q⟩ := bE q
   refine OL (AI f157_in (cV (cQ C157 q13_7 r15 [] false C157_holds hr15 rfl rfl (AI rfl (K0 (OL ?_))))))
   cases sE q
   refine E4 [(0,some 2),(1,some 3),(2,some 4)] (R2 (AJ (R3 TV)))
  refine OL (cI q (fun q=>?_) (fun q=>?_))
  ·refine OL ?_
   obtain ⟨r16,hr16,q⟩ := bE q
   refine OL (AI f159_in (cV (cQ C159 (a.1,a.2) r16 [] false C159_holds hr16 rfl rfl (R2 (K0 ?_)))))
   obtain ⟨r17,hr17,q⟩ := bE q
   refine OL (AI f157_in (cV (cQ C157 r16 r17 [] false C157_holds hr17 rfl rfl (AI rfl (K0 (OL ?_))))))
   cases sE q
   refine E4 [(0,some 2),(1,some 3),(2,some 4)] (R2 (AJ (R3 TV)))
  refine OL (cI q (fun q=>?_) (fun q=>?_))
  ·refine OL (EI (.take 0 (.take 2 (.alt 1 (.alt 3 (.take 4 (.take 5 (.alt 6 (.take 7 .done) .done))) .done) .done))) (EI [] (EI [] (AI rfl (AI TV ?_)))))
   obtain ⟨q19_1,hq19_1,q⟩ := bE q
   refine OL (AI f156_in (cV (cQ C156 k q19_1 [] false C156_holds hq19_1 rfl rfl (AI rfl (K0 (AI TV ?_))))))
   obtain ⟨q19_3,hq19_3,q⟩ := bE q
   refine OL (AI f160_in (cV (cQ C160 (q19_1,(a.1,a.2)) q19_3 [] false C160_holds hq19_3 rfl rfl (R3 (K0 (AI TV (OL ?_)))))))
   cases sE q
   refine E4 [(0,some 2),(1,some 3),(2,some 4)] (R2 (AJ (R3 TV)))
  refine OL (cI q (fun q=>?_) (fun q=>?_))
  ·refine OL (EI (.take 0 (.take 1 (.take 2 (.alt 3 (.alt 4 (.take 5 (.take 6 (.alt 7 (.take 8 .done) .done))) .done) .done)))) (EI [] (EI [] (AI rfl (AI TV ?_)))))
   obtain ⟨q21_3,hq21_3,q⟩ := bE q
   refine OL (AI f156_in (cV (cQ C156 k q21_3 [] false C156_holds hq21_3 rfl rfl (AI rfl (K0 (AI TV ?_))))))
   obtain ⟨q21_4,hq21_4,q⟩ := bE q
   refine OL (AI f161_in (cV (cQ C161 ((a.1,a.2),(b.1,b.2),q21_3) q21_4 [] false C161_holds hq21_4 rfl rfl (R5 (K0 (AI TV (OL ?_)))))))
   cases sE q
   refine E4 [(0,some 2),(1,some 3),(2,some 4)] (R2 (AJ (R3 TV)))
  refine OL (cI q (fun q=>?_) (fun q=>?_))
  ·obtain ⟨z18,hz18,q⟩ := bE q
   refine OQ ⟨[(0,⟨[(8,P0 0 0),(10,P0 1 0),(12,.dat T2 z18.1)],[(0,.cells [N0,N0]),(1,.cells [(.osl 2),(.osl 3)]),(2,.arr 3 T2 z18.2.1),(3,.arr 40 T2 z18.2.2)],4⟩)],?_,?_⟩
   ·have q := hz18
    clear hz18
    unfold f109_j5 at q
    obtain ⟨q23_2,hq23_2,q⟩ := bE q
    obtain ⟨q23_3,hq23_3,q⟩ := bE q
    refine EI (.take 0 (.take 1 (.alt 2 (.alt 3 (.take 4 (.take 5 (.take 6 (.take 7 (.alt 8 (.alt 9 (.take 10 (.take 11 .done)) .done) .done))))) (.alt 8 (.alt 3 (.take 4 (.take 5 (.take 6 (.take 7 (.alt 9 (.take 10 (.take 11 .done)) .done))))) .done) .done)) (.alt 8 (.alt 2 (.alt 3 (.take 4 (.take 5 (.take 6 (.take 7 (.alt 9 (.take 10 (.take 11 .done)) .done))))) .done) .done) .done)))) (EI [] (EI [] (AI rfl (AI (AI TV ?_) ?_))))
    ·refine AI TV (OL (AI f156_in (cV (cQ C156 k q23_2 [] false C156_holds hq23_2 rfl rfl (AI rfl (K0 (AI TV (OL (AI f125_in (cV (cQ C125 ((a.1,a.2),q23_2) q23_3 [] false C125_holds hq23_3 rfl rfl (R3 (K0 (AI TV (OL ?_)))))))))))))))
     cases sE q
     refine E4 [(0,some 2),(1,some 3),(2,some 4),(3,some 5)] (R2 (AI (R2 TV) (R4 TV)))
    refine OL (AI f156_in (cV (cQ C156 k q23_2 [] false C156_holds hq23_2 rfl rfl (AI rfl (K0 (AI (AI TV ?_) ?_))))))
    ·refine AI TV (OL (AI f125_in (cV (cQ C125 ((a.1,a.2),q23_2) q23_3 [] false C125_holds hq23_3 rfl rfl (R3 (K0 (AI TV (OL ?_))))))))
     cases sE q
     refine E4 [(0,some 2),(1,some 3),(2,some 4),(3,some 5)] (R2 (AI (R2 TV) (R4 TV)))
    refine OL (AI f125_in (cV (cQ C125 ((a.1,a.2),q23_2) q23_3 [] false C125_holds hq23_3 rfl rfl (R3 (K0 (AI TV (AI TV (OL ?_))))))))
    cases sE q
    refine E4 [(0,some 2),(1,some 6),(2,some 3),(3,some 4)] (R2 (AI (R2 TV) (R4 TV)))
   refine AI (OL (OL ?_)) TV
   cases sE q
   refine E4 [(0,some 0),(1,some 2),(2,some 3)] (R2 (AJ (R3 TV)))
  cases sE q
  refine E4 [(0,some 0),(1,some 2)] (AI rfl (AI (R2 TV) (R2 TV)))
 rcases z10 with z10a | z10b
 ·dsimp only [sumF] at q
  refine AI (OL (OL ?_)) TV
  obtain ⟨r19,hr19,q⟩ := bE q
  refine OL (AI f126_in (cV (cQ C126 ((a.1,a.2),[(List.length a.2:Int)]) r19 [] true C126_holds hr19 rfl rfl (R3 (AI (fun _=>rfl) (R2 (AI TV (AI TV (OL ?_)))))))))
  cases sE q
  refine AI rfl (E4 [(0,some 3),(1,some 4)] (R2 (AJ (R2 TV))))
 dsimp only [sumF] at q
 refine AI ?_ TV
 cases sE q
 refine AI rfl (E4 [(0,some 1),(1,some 2)] (R2 (AJ (R2 TV))))
theorem C109_holds : HP C109 109 := hH Tryz.f109 (by kernel_rfl) rfl (fun x y q=>C109_vc x.1 x.2.1 x.2.2.1 x.2.2.2 y q)
theorem f109_in : InP 109 := inP (by kernel_rfl)
def f70_j1 (t_L : NL) (op:Int) (a:Int) (b:Int) : Option (Sum Unit Unit) :=
 bif (decide (op < (2:Int))) then
 some (Sum.inr ())
 else
 bif (decide (op > (14:Int))) then
 some (Sum.inr ())
 else
 bif (decide (a < (0:Int))) then
 some (Sum.inr ())
 else
 bif (decide (a ≥ (List.length t_L:Int))) then
 some (Sum.inr ())
 else
 bindF (f107 op) fun r3 =>
 bif r3 then
 bif (decide (b < (0:Int))) then
 some (Sum.inr ())
 else
 bif (decide (b ≥ (List.length t_L:Int))) then
 some (Sum.inr ())
 else
 some (Sum.inl ())
 else
 some (Sum.inl ())
def f70_j2 (t_L : NL) (op:Int) (b:Int) : Option (Int×LI×LI) :=
 bindF (f107 op) fun r6 =>
 bif r6 then
 guardF (0 ≤ b ∧ b < (List.length t_L:Int)) <|
 some (b,(((((rd (Ty.z T0) t_L b).2).2).2).2).1,(((((rd (Ty.z T0) t_L b).2).2).2).2).2)
 else
 some ((-1:Int),[],[])
def f70_j3 (op:Int) (k:Int) : Option Int :=
 bindF (f108 op) fun r9 =>
 bif r9 then
 some k
 else
 some (0:Int)
def f70_j4 (t_L : NL) (op:Int) (a:Int) (z5 : Int×LI×LI) (z8:Int) : Option (Int×LI×LI) :=
 guardF (0 ≤ a ∧ a < (List.length t_L:Int)) <|
 bindF (f109 op ((((((rd (Ty.z T0) t_L a).2).2).2).2).1,(((((rd (Ty.z T0) t_L a).2).2).2).2).2) (z5.2.1,z5.2.2) z8) fun q12_12 =>
 some (q12_12.1,q12_12.2.1,q12_12.2.2)
def f70 (t_L : NL) (op:Int) (a:Int) (b:Int) (k:Int) : Option (Int×Int×NL) :=
 bif (decide ((List.length t_L:Int) ≥ (512:Int))) then
 some ((0:Int),(2:Int),t_L)
 else
 bindF (f70_j1 t_L op a b) fun z2 =>
 sumF z2 (fun z2a =>
 bindF (f70_j2 t_L op b) fun z5 =>
 bindF (f70_j3 op k) fun z8 =>
 bindF (f70_j4 t_L op a z5 z8) fun z10 =>
 bif (z10.1 != (0:Int)) then
 some ((0:Int),z10.1,t_L)
 else
 guardF ((List.length t_L + List.length ([(op,a,z5.1,z8,z10.2.1,z10.2.2)])) * 80 ≤ 140737488355328) <|
 some ((i64.wrap ((List.length (t_L ++ ([(op,a,z5.1,z8,z10.2.1,z10.2.2)])):Int) - (1:Int))),(0:Int),(t_L ++ ([(op,a,z5.1,z8,z10.2.1,z10.2.2)])))) (fun z2b =>
 some ((0:Int),(1:Int),t_L))
def C70 : Con where
 X := NL×Int×Int×Int×Int
 Y := Int×Int×NL
 e := 2
 args x := [P0 0 0,.dat T2 x.2.1,.dat T2 x.2.2.1,.dat T2 x.2.2.2.1,.dat T2 x.2.2.2.2]
 hin x := [(0,.cells [(.osl 1)]),(1,.arr 45 T0 x.1)]
 F x := f70 x.1 x.2.1 x.2.2.1 x.2.2.2.1 x.2.2.2.2
 ret y := [.dat T2 y.1,.dat T2 y.2.1]
 hout y := [(0,.cells [(.osl 2)]),(2,.arr 45 T0 y.2.2)]
 nout := 3
theorem C70_vc (t_L : NL) (op:Int) (a:Int) (b:Int) (k:Int) (y : Int×Int×NL) (q : f70 t_L op a b k = some y) : VE Tryz.f70 2 C70 (t_L,op,a,b,k) y := by
 unfold f70 at q
 refine OL (OL (OL (cI q (fun q=>?_) (fun q=>?_))))
 ·cases sE q
  refine OL (AI rfl (E4 [(0,some 0),(2,some 1)] (R3 (AI TV (R2 TV)))))
 obtain ⟨z2,hz2,q⟩ := bE q
 refine OQ ⟨Sum.elim (fun z2a=>[(0,⟨[(0,P0 0 0),(1,.dat T2 op),(2,.dat T2 a),(3,.dat T2 b),(4,.dat T2 k)],[(0,.cells [(.osl 1)]),(1,.arr 45 T0 t_L)],2⟩)]) (fun z2b=>[(1,⟨[(10,D0 0),(11,D0 1)],[(0,.cells [(.osl 1)]),(1,.arr 45 T0 t_L)],2⟩)]) z2,?_,?_⟩
 ·have q := hz2
  clear hz2
  unfold f70_j1 at q
  refine OL (cN q (fun q=>?_) (fun q=>?_))
  ·refine gY (cF (cN q (fun q=>?_) (fun q=>?_)))
   ·refine gY (cF (cN q (fun q=>?_) (fun q=>?_)))
    ·refine gY (gY (gY (gY (gY (gY (cF (cN q (fun q=>?_) (fun q=>?_))))))))
     ·refine gY ?_
      obtain ⟨r3,hr3,q⟩ := bE q
      refine OL (AI f107_in (cV (cQ C107 op r3 [] false C107_holds hr3 rfl rfl (AI rfl (K0 (gY (cI q (fun q=>?_) (fun q=>?_))))))))
      ·refine gX (gX (cN q (fun q=>?_) (fun q=>?_)))
       ·refine gY (gY (gY (gY (gY (gY (gX (cF (gY (cT (cF (cI q (fun q=>?_) (fun q=>?_))))))))))))
        ·cases sE q
         refine OL (E4 I2 (R3 (AI TV (R2 TV))))
        cases sE q
        refine E4 I2 (R5 (AJ (R2 TV)))
       refine gN (gN (gN (gN (gN (gN (gX (cT (gY (cT (cF (cT (OL ?_))))))))))))
       cases sE q
       refine E4 I2 (R3 (AI TV (R2 TV)))
      refine gM (gM (gM (gY (cF (cF (cF ?_))))))
      cases sE q
      refine E4 I2 (R5 (AJ (R2 TV)))
     refine gN (gN (gN (cT (cT (OL ?_)))))
     cases sE q
     refine E4 I2 (R3 (AI TV (R2 TV)))
    refine gN (gN (gN (gN (gN (gN (cT (gN (gN (gN (gN (cT (cT (OL ?_)))))))))))))
    cases sE q
    refine E4 I2 (R3 (AI TV (R2 TV)))
   refine gN (cT (gN (gN (gN (gN (gN (gN (gN (cT (gN (gN (gN (gN (cT (cT (OL ?_))))))))))))))))
   cases sE q
   refine E4 I2 (R3 (AI TV (R2 TV)))
  refine gN (cT (gN (gN (cT (gN (gN (gN (gN (gN (gN (gN (cT (gN (gN (gN (gN (cT (cT (OL ?_)))))))))))))))))))
  cases sE q
  refine E4 I2 (R3 (AI TV (R2 TV)))
 rcases z2 with z2a | z2b
 ·dsimp only [sumF] at q
  refine AI (OL (OL (OL (OL ?_)))) TV
  obtain ⟨z5,hz5,q⟩ := bE q
  refine OQ ⟨[(0,⟨[(0,P0 0 0),(1,.dat T2 op),(2,.dat T2 a),(4,.dat T2 k),(12,P0 2 0),(13,P0 3 0)],[(0,.cells [(.osl 1)]),(1,.arr 45 T0 t_L),(2,.cells [(.d T2 op),(.d T2 a),(.d T2 z5.1),(.d T2 (0:Int)),N0,N0]),(3,.cells [(.d T1 z5.2.1),(.d T1 z5.2.2)])],4⟩)],?_,?_⟩
  ·have q := hz5
   clear hz5
   unfold f70_j2 at q
   refine OL ?_
   obtain ⟨r6,hr6,q⟩ := bE q
   refine OL (AI f107_in (cV (cQ C107 op r6 [] false C107_holds hr6 rfl rfl (AI rfl (K0 (cI q (fun q=>?_) (fun q=>?_)))))))
   ·refine OL (OL (gI q (fun q=>?_)))
    cases sE q
    refine OL (E4 I4 (R4 (AI (R3 TV) (R4 TV))))
   cases sE q
   refine EI [] (EI [] (EI [(3,0,T2),(3,1,T2)] (EI [] (EI I4 (R4 (AI (R3 TV) (R4 TV)))))))
  refine AI ?_ TV
  obtain ⟨z8,hz8,q⟩ := bE q
  refine OQ ⟨[(0,⟨[(0,P0 0 0),(1,.dat T2 op),(2,.dat T2 a),(12,P0 2 0),(13,P0 3 0)],[(0,.cells [(.osl 1)]),(1,.arr 45 T0 t_L),(2,.cells [(.d T2 op),(.d T2 a),(.d T2 z5.1),(.d T2 z8),N0,N0]),(3,.cells [(.d T1 z5.2.1),(.d T1 z5.2.2)])],4⟩)],?_,?_⟩
  ·have q := hz8
   clear hz8
   unfold f70_j3 at q
   refine OL ?_
   obtain ⟨r9,hr9,q⟩ := bE q
   refine OL (AI f108_in (cV (cQ C108 op r9 [] false C108_holds hr9 rfl rfl (AI rfl (K0 (cI q (fun q=>?_) (fun q=>?_)))))))
   ·cases sE q
    refine OL (E4 I4 (R3 (AI (R3 TV) (R4 TV))))
   cases sE q
   refine E4 I4 (R3 (AI (R3 TV) (R4 TV)))
  refine AI ?_ TV
  obtain ⟨z10,hz10,q⟩ := bE q
  refine OQ ⟨[(0,⟨[(0,P0 0 0),(12,P0 2 0),(14,P0 3 0),(15,.dat T2 z10.1)],[(0,.cells [(.osl 1)]),(1,.arr 45 T0 t_L),(2,.cells [(.d T2 op),(.d T2 a),(.d T2 z5.1),(.d T2 z8),N0,N0]),(3,.cells [(.osl 4),(.osl 5)]),(4,.arr 3 T2 z10.2.1),(5,.arr 40 T2 z10.2.2)],6⟩)],?_,?_⟩
  ·have q := hz10
   clear hz10
   unfold f70_j4 at q
   obtain ⟨g12_0,q⟩ := gE q
   obtain ⟨q12_12,hq12_12,q⟩ := bE q
   refine EI (.take 0 (.take 1 (.take 2 (.take 3 (.take 4 (.take 5 (.take 6 (.take 7 (.take 8 (.take 9 (.take 10 (.take 11 (.alt 12 (.take 13 (.take 14 (.take 15 (.alt 16 (.alt 17 (.take 18 .done) .done) .done)))) (.alt 16 (.alt 12 (.take 13 (.take 14 (.take 15 (.alt 17 (.take 18 .done) .done)))) .done) .done)))))))))))))) (EI [] (EI [] (AI rfl (AI g12_0 (AI (AI TV ?_) ?_)))))
   ·refine AI TV (OL (AI f109_in (cV (cQ C109 (op,((((((rd (Ty.z T0) t_L a).2).2).2).2).1,(((((rd (Ty.z T0) t_L a).2).2).2).2).2),(z5.2.1,z5.2.2),z8) q12_12 [] false C109_holds hq12_12 rfl rfl (R6 (K0 (AI TV (OL ?_))))))))
    cases sE q
    refine E4 [(0,some 0),(1,some 1),(2,some 2),(3,some 4),(4,some 5),(5,some 6)] (R2 (AI (R3 TV) (R6 TV)))
   refine OL (AI f109_in (cV (cQ C109 (op,((((((rd (Ty.z T0) t_L a).2).2).2).2).1,(((((rd (Ty.z T0) t_L a).2).2).2).2).2),(z5.2.1,z5.2.2),z8) q12_12 [] false C109_holds hq12_12 rfl rfl (R6 (K0 (AI TV (AI TV (OL ?_))))))))
   cases sE q
   refine E4 [(0,some 0),(1,some 1),(2,some 2),(3,some 6),(4,some 4),(5,some 5)] (R2 (AI (R3 TV) (R6 TV)))
  refine AI (OL (OL (cI q (fun q=>?_) (fun q=>?_)))) TV
  ·cases sE q
   refine OL (AI rfl (E4 [(0,some 0),(2,some 1)] (R3 (AI TV (R2 TV)))))
  refine OL (OL (OL (EI (.take 0 (.take 1 (.take 2 (.take 3 (.take 4 (.take 5 (.alt 6 (.alt 7 (.take 8 (.take 9 (.alt 10 .done .done))) .done) .done))))))) (EI [(10,[0])] (EI [] (AI rfl (AI TV (OL (AI TV (OL (gI q (fun q=>?_))))))))))))
  refine AI TV (OL (OL ?_))
  cases sE q
  refine AI rfl (E4 [(0,some 0),(2,some 7)] (R3 (AI TV (R2 TV))))
 dsimp only [sumF] at q
 refine AI ?_ TV
 cases sE q
 refine AI rfl (E4 [(0,some 0),(2,some 1)] (R3 (AI TV (R2 TV))))
theorem C70_holds : HP C70 70 := hH Tryz.f70 (by kernel_rfl) rfl (fun x y q=>C70_vc x.1 x.2.1 x.2.2.1 x.2.2.2.1 x.2.2.2.2 y q)
theorem f70_in : InP 70 := inP (by kernel_rfl)
end Go.Proofs
