import Derived.Test.YtoicgngppmpapaaGreatSoloKnownS3
set_option linter.unusedVariables false
set_option maxRecDepth 100000
set_option maxHeartbeats 8000000
namespace Go.Proofs
open Go.AM
open IntKind (i64 u64 i32 u32 i16 u16 i8 u8)
def f180_l1 (a_M_0:Int) (a_M_1:Int) (a_M_2:Int) (a_M_3:Int) (n:Int) (go : (Int×Int×Int×Int×Int) → Option (Int×Int×Int×Int)) (i:Int) (c2_1:Int) (c2_2:Int) (c2_3:Int) (c2_4:Int) : Option (Int×Int×Int×Int) :=
 bif (decide (i < (256:Int))) then
 bindF (f181 a_M_0 a_M_1 a_M_2 a_M_3 i) fun r6 =>
 bif (r6 == (1:Int)) then
 guardF (0 ≤ (i64.wrap (Int.tdiv (i64.wrap (i - n)) (64:Int))) ∧ (i64.wrap (Int.tdiv (i64.wrap (i - n)) (64:Int))) < (4:Int)) <|
 pickF (i64.wrap (Int.tdiv (i64.wrap (i - n)) (64:Int)))
 [(guardF (0 ≤ (u64.wrap (Int.tmod (i64.wrap (i - n)) (64:Int)))) <|
 go ((i64.wrap (i + (1:Int))),(bitsOf IntKind.u64 (fun p q=>p ||| q) c2_1 (u64.wrap ((1:Int) * 2 ^ min (Int.toNat (u64.wrap (Int.tmod (i64.wrap (i - n)) (64:Int)))) u64.bits))),c2_2,c2_3,c2_4)),
 (guardF (0 ≤ (u64.wrap (Int.tmod (i64.wrap (i - n)) (64:Int)))) <|
 go ((i64.wrap (i + (1:Int))),c2_1,(bitsOf IntKind.u64 (fun p q=>p ||| q) c2_2 (u64.wrap ((1:Int) * 2 ^ min (Int.toNat (u64.wrap (Int.tmod (i64.wrap (i - n)) (64:Int)))) u64.bits))),c2_3,c2_4)),
 (guardF (0 ≤ (u64.wrap (Int.tmod (i64.wrap (i - n)) (64:Int)))) <|
 go ((i64.wrap (i + (1:Int))),c2_1,c2_2,(bitsOf IntKind.u64 (fun p q=>p ||| q) c2_3 (u64.wrap ((1:Int) * 2 ^ min (Int.toNat (u64.wrap (Int.tmod (i64.wrap (i - n)) (64:Int)))) u64.bits))),c2_4)),
 (guardF (0 ≤ (u64.wrap (Int.tmod (i64.wrap (i - n)) (64:Int)))) <|
 go ((i64.wrap (i + (1:Int))),c2_1,c2_2,c2_3,(bitsOf IntKind.u64 (fun p q=>p ||| q) c2_4 (u64.wrap ((1:Int) * 2 ^ min (Int.toNat (u64.wrap (Int.tmod (i64.wrap (i - n)) (64:Int)))) u64.bits)))))]
 else
 go ((i64.wrap (i + (1:Int))),c2_1,c2_2,c2_3,c2_4)
 else
 some (c2_1,c2_2,c2_3,c2_4)
def f180_j2 (a_M_0:Int) (a_M_1:Int) (a_M_2:Int) (a_M_3:Int) (n:Int) : Option (Sum Unit Unit) :=
 bif (n == (0:Int)) then
 some (Sum.inr ())
 else
 bindF (f181 a_M_0 a_M_1 a_M_2 a_M_3 (i64.wrap (n - (1:Int)))) fun r10 =>
 bif (r10 == (0:Int)) then
 some (Sum.inr ())
 else
 some (Sum.inl ())
def f180_l3 (a_M_0:Int) (a_M_1:Int) (a_M_2:Int) (a_M_3:Int) (n:Int) (go : (Bool×Int) → Option Bool) (more : Bool) (i:Int) : Option Bool :=
 bif (decide (i < (i64.wrap (n - (1:Int))))) then
 bif more then
 go (true,(i64.wrap (i + (1:Int))))
 else
 bindF (f181 a_M_0 a_M_1 a_M_2 a_M_3 i) fun r14 =>
 go ((r14 == (1:Int)),(i64.wrap (i + (1:Int))))
 else
 some more
def f180 (a_Neg : Bool) (a_M_0:Int) (a_M_1:Int) (a_M_2:Int) (a_M_3:Int) (n:Int) : Option (Bool×Int×Int×Int×Int) :=
 bindF (loopF (fun go x=>f180_l1 a_M_0 a_M_1 a_M_2 a_M_3 n go x.1 x.2.1 x.2.2.1 x.2.2.2.1 x.2.2.2.2) fuelN (n,(0:Int),(0:Int),(0:Int),(0:Int))) fun z5 =>
 bindF (f180_j2 a_M_0 a_M_1 a_M_2 a_M_3 n) fun z9 =>
 sumF z9 (fun z9a =>
 bindF (loopF (fun go x=>f180_l3 a_M_0 a_M_1 a_M_2 a_M_3 n go x.1 x.2) fuelN (((bitsOf IntKind.u64 (fun p q=>p &&& q) z5.1 (1:Int)) == (1:Int)),(0:Int))) fun z13 =>
 bif z13 then
 bindF (f182 z5.1 z5.2.1 z5.2.2.1 z5.2.2.2 (1:Int) (0:Int) (0:Int) (0:Int)) fun r15 =>
 some (a_Neg,r15.1,r15.2.1,r15.2.2.1,r15.2.2.2)
 else
 some (a_Neg,z5.1,z5.2.1,z5.2.2.1,z5.2.2.2)) (fun z9b =>
 some (a_Neg,z5.1,z5.2.1,z5.2.2.1,z5.2.2.2))
def C180 : Con where
 X := Bool×Int×Int×Int×Int×Int
 Y := Bool×Int×Int×Int×Int
 e := 0
 args x := [.raw true [(.d .bool x.1),(.d T4 x.2.1),(.d T4 x.2.2.1),(.d T4 x.2.2.2.1),(.d T4 x.2.2.2.2.1)],.dat T2 x.2.2.2.2.2]
 hin x := []
 F x := f180 x.1 x.2.1 x.2.2.1 x.2.2.2.1 x.2.2.2.2.1 x.2.2.2.2.2
 ret y := [.raw true [(.d .bool y.1),(.d T4 y.2.1),(.d T4 y.2.2.1),(.d T4 y.2.2.2.1),(.d T4 y.2.2.2.2)]]
 hout y := []
 nout := 0
theorem C180_vc (a_Neg : Bool) (a_M_0:Int) (a_M_1:Int) (a_M_2:Int) (a_M_3:Int) (n:Int) (y : Bool×Int×Int×Int×Int) (q : f180 a_Neg a_M_0 a_M_1 a_M_2 a_M_3 n = some y) : VC Tryz.f180 C180 (a_Neg,a_M_0,a_M_1,a_M_2,a_M_3,n) y := by
 unfold f180 at q
 refine OL (OL (OL (OL (OL ?_))))
 obtain ⟨z5,hz5,q⟩ := bE q
 refine lI (Int×Int×Int×Int×Int) (Int×Int×Int×Int) (fun x=>⟨[(1,.dat T2 n),(2,P0 0 0),(4,P0 1 0),(5,P0 2 0),(6,.dat T2 x.1)],[(0,.cells [(.d .bool a_Neg),(.d T4 a_M_0),(.d T4 a_M_1),(.d T4 a_M_2),(.d T4 a_M_3)]),(1,.cells [(.d .bool false),(.d T4 (0:Int)),(.d T4 (0:Int)),(.d T4 (0:Int)),(.d T4 (0:Int))]),(2,.cells [(.d .bool a_Neg),(.d T4 x.2.1),(.d T4 x.2.2.1),(.d T4 x.2.2.2.1),(.d T4 x.2.2.2.2)])],3⟩) (fun z=>[(2,⟨[(1,.dat T2 n),(2,P0 0 0),(4,P0 1 0),(5,P0 2 0)],[(0,.cells [(.d .bool a_Neg),(.d T4 a_M_0),(.d T4 a_M_1),(.d T4 a_M_2),(.d T4 a_M_3)]),(1,.cells [(.d .bool false),(.d T4 (0:Int)),(.d T4 (0:Int)),(.d T4 (0:Int)),(.d T4 (0:Int))]),(2,.cells [(.d .bool a_Neg),(.d T4 z.1),(.d T4 z.2.1),(.d T4 z.2.2.1),(.d T4 z.2.2.2)])],3⟩)]) (loopF (fun go x=>f180_l1 a_M_0 a_M_1 a_M_2 a_M_3 n go x.1 x.2.1 x.2.2.1 x.2.2.2.1 x.2.2.2.2)) fuelN (n,(0:Int),(0:Int),(0:Int),(0:Int)) z5 (AI hz5 (AI (E4 I3 (R3 (AI (R3 TV) (R3 TV)))) (AI (fun _ _ h=>lZ h) (AI (fun m=>curI (fun i=>curI (fun c2_1=>curI (fun c2_2=>curI (fun c2_3=>fun c2_4 z q=>?_))))) ?_))))
 ·have q : f180_l1 a_M_0 a_M_1 a_M_2 a_M_3 n (loopF (fun go x=>f180_l1 a_M_0 a_M_1 a_M_2 a_M_3 n go x.1 x.2.1 x.2.2.1 x.2.2.2.1 x.2.2.2.2) m) i c2_1 c2_2 c2_3 c2_4 = some z := q
  unfold f180_l1 at q
  refine OL (OL (cI q (fun q=>?_) (fun q=>?_)))
  ·refine OL (OL ?_)
   obtain ⟨r6,hr6,q⟩ := bE q
   refine OL (AI f181_in (cV (cQ C181 (a_M_0,a_M_1,a_M_2,a_M_3,i) r6 [] false C181_holds hr6 rfl rfl (AI rfl (AI NH (R2 (AJ (AI TV (cI q (fun q=>?_) (fun q=>?_))))))))))
   ·refine AI (by decide) (AI (by decide) (gI q (fun q=>?_)))
    refine AI (fun hk7=>?_) ?_
    ·have q := pickE q hk7
     dsimp only [nthO] at q
     refine AI (by decide) (gI q (fun q=>?_))
     refine AI (rE hk7 (by decide)) (AI (fun _=>?_) (AI (fun h=>absurd (hk7.symm.trans h) (by decide)) (AI (fun h=>absurd (hk7.symm.trans h) (by decide)) (AI (fun h=>absurd (hk7.symm.trans h) (by decide)) TV))))
     refine OL (EI ((i64.wrap (i + (1:Int))),(bitsOf IntKind.u64 (fun p q=>p ||| q) c2_1 (u64.wrap ((1:Int) * 2 ^ min (Int.toNat (u64.wrap (Int.tmod (i64.wrap (i - n)) (64:Int)))) u64.bits))),c2_2,c2_3,c2_4) (AI q (E4 I3 (R3 (AI (R3 TV) (R3 TV))))))
    refine AI (fun hk7=>?_) ?_
    ·have q := pickE q hk7
     dsimp only [nthO] at q
     refine AI (by decide) (gI q (fun q=>?_))
     refine AI (rE hk7 (by decide)) (AI (fun h=>absurd (hk7.symm.trans h) (by decide)) ?_)
     refine AI (fun _=>?_) (AI (fun h=>absurd (hk7.symm.trans h) (by decide)) (AI (fun h=>absurd (hk7.symm.trans h) (by decide)) TV))
     refine OL (EI ((i64.wrap (i + (1:Int))),c2_1,(bitsOf IntKind.u64 (fun p q=>p ||| q) c2_2 (u64.wrap ((1:Int) * 2 ^ min (Int.toNat (u64.wrap (Int.tmod (i64.wrap (i - n)) (64:Int)))) u64.bits))),c2_3,c2_4) (AI q (E4 I3 (R3 (AI (R3 TV) (R3 TV))))))
    refine AI (fun hk7=>?_) ?_
    ·have q := pickE q hk7
     dsimp only [nthO] at q
     refine AI (by decide) (gI q (fun q=>?_))
     refine AI (rE hk7 (by decide)) (AI (fun h=>absurd (hk7.symm.trans h) (by decide)) ?_)
     refine AI (fun h=>absurd (hk7.symm.trans h) (by decide)) ?_
     refine AI (fun _=>?_) (AI (fun h=>absurd (hk7.symm.trans h) (by decide)) TV)
     refine OL (EI ((i64.wrap (i + (1:Int))),c2_1,c2_2,(bitsOf IntKind.u64 (fun p q=>p ||| q) c2_3 (u64.wrap ((1:Int) * 2 ^ min (Int.toNat (u64.wrap (Int.tmod (i64.wrap (i - n)) (64:Int)))) u64.bits))),c2_4) (AI q (E4 I3 (R3 (AI (R3 TV) (R3 TV))))))
    refine AI (fun hk7=>?_) TV
    have q := pickE q hk7
    dsimp only [nthO] at q
    refine AI (by decide) (gI q (fun q=>?_))
    refine AI (rE hk7 (by decide)) (AI (fun h=>absurd (hk7.symm.trans h) (by decide)) ?_)
    refine AI (fun h=>absurd (hk7.symm.trans h) (by decide)) ?_
    refine AI (fun h=>absurd (hk7.symm.trans h) (by decide)) ?_
    refine AI (fun _=>?_) TV
    refine OL (EI ((i64.wrap (i + (1:Int))),c2_1,c2_2,c2_3,(bitsOf IntKind.u64 (fun p q=>p ||| q) c2_4 (u64.wrap ((1:Int) * 2 ^ min (Int.toNat (u64.wrap (Int.tmod (i64.wrap (i - n)) (64:Int)))) u64.bits)))) (AI q (E4 I3 (R3 (AI (R3 TV) (R3 TV))))))
   refine EI ((i64.wrap (i + (1:Int))),c2_1,c2_2,c2_3,c2_4) (AI q (E4 I3 (R3 (AI (R3 TV) (R3 TV)))))
  cases sE q
  refine E4 I3 (R2 (AI (R3 TV) (R3 TV)))
 refine AI ?_ TV
 obtain ⟨z9,hz9,q⟩ := bE q
 refine OQ ⟨Sum.elim (fun z9a=>[(0,⟨[(1,.dat T2 n),(2,P0 0 0),(4,P0 1 0),(5,P0 2 0)],[(0,.cells [(.d .bool a_Neg),(.d T4 a_M_0),(.d T4 a_M_1),(.d T4 a_M_2),(.d T4 a_M_3)]),(1,.cells [(.d .bool false),(.d T4 (0:Int)),(.d T4 (0:Int)),(.d T4 (0:Int)),(.d T4 (0:Int))]),(2,.cells [(.d .bool a_Neg),(.d T4 z5.1),(.d T4 z5.2.1),(.d T4 z5.2.2.1),(.d T4 z5.2.2.2)])],3⟩)]) (fun z9b=>[(1,⟨[(4,P0 0 0)],[(0,.cells [(.d .bool a_Neg),(.d T4 z5.1),(.d T4 z5.2.1),(.d T4 z5.2.2.1),(.d T4 z5.2.2.2)])],1⟩)]) z9,?_,?_⟩
 ·have q := hz9
  clear hz9
  unfold f180_j2 at q
  refine OL (cN q (fun q=>?_) (fun q=>?_))
  ·refine gY (gY (gY (gY ?_)))
   obtain ⟨r10,hr10,q⟩ := bE q
   refine OL (AI f181_in (cV (cQ C181 (a_M_0,a_M_1,a_M_2,a_M_3,(i64.wrap (n - (1:Int)))) r10 [] false C181_holds hr10 rfl rfl (AI rfl (AI NH (R2 (AJ (AI TV (gY (cF (cI q (fun q=>?_) (fun q=>?_))))))))))))
   ·refine OL (OL ?_)
    cases sE q
    refine E4 [(0,some 1)] (AI rfl (AJ (AI rfl TV)))
   cases sE q
   refine E4 I3 (R2 (AI (R3 TV) (R3 TV)))
  refine gN (gN (gN (gN (gN (cT (cT (OL (OL ?_))))))))
  cases sE q
  refine E4 [(0,some 1)] (AI rfl (AJ (AI rfl TV)))
 rcases z9 with z9a | z9b
 ·dsimp only [sumF] at q
  refine AI (OL (AI (by decide) (AI (fun _=>?_) (AI (fun h=>absurd h (by decide)) (AI (fun h=>absurd h (by decide)) (AI (fun h=>absurd h (by decide)) TV)))))) TV
  refine OL (OL ?_)
  obtain ⟨z13,hz13,q⟩ := bE q
  refine lI (Bool×Int) Bool (fun x=>⟨[(1,.dat T2 n),(2,P0 0 0),(4,P0 1 0),(5,P0 2 0),(7,.dat .bool x.1),(8,.dat T2 x.2)],[(0,.cells [(.d .bool a_Neg),(.d T4 a_M_0),(.d T4 a_M_1),(.d T4 a_M_2),(.d T4 a_M_3)]),(1,.cells [(.d .bool false),(.d T4 (0:Int)),(.d T4 (0:Int)),(.d T4 (0:Int)),(.d T4 (0:Int))]),(2,.cells [(.d .bool a_Neg),(.d T4 z5.1),(.d T4 z5.2.1),(.d T4 z5.2.2.1),(.d T4 z5.2.2.2)])],3⟩) (fun z=>[(4,⟨[(4,P0 0 0),(5,P0 1 0),(7,.dat .bool z)],[(0,.cells [(.d .bool false),(.d T4 (0:Int)),(.d T4 (0:Int)),(.d T4 (0:Int)),(.d T4 (0:Int))]),(1,.cells [(.d .bool a_Neg),(.d T4 z5.1),(.d T4 z5.2.1),(.d T4 z5.2.2.1),(.d T4 z5.2.2.2)])],2⟩)]) (loopF (fun go x=>f180_l3 a_M_0 a_M_1 a_M_2 a_M_3 n go x.1 x.2)) fuelN (((bitsOf IntKind.u64 (fun p q=>p &&& q) z5.1 (1:Int)) == (1:Int)),(0:Int)) z13 (AI hz13 (AI (E4 I3 (R4 (AI (R3 TV) (R3 TV)))) (AI (fun _ _ h=>lZ h) (AI (fun m=>curI (fun more=>fun i z q=>?_)) ?_))))
  ·have q : f180_l3 a_M_0 a_M_1 a_M_2 a_M_3 n (loopF (fun go x=>f180_l3 a_M_0 a_M_1 a_M_2 a_M_3 n go x.1 x.2) m) more i = some z := q
   unfold f180_l3 at q
   refine OL (OL (cI q (fun q=>?_) (fun q=>?_)))
   ·refine OL (cN q (fun q=>?_) (fun q=>?_))
    ·refine gY (gY (gY ?_))
     obtain ⟨r14,hr14,q⟩ := bE q
     refine OL (AI f181_in (cV (cQ C181 (a_M_0,a_M_1,a_M_2,a_M_3,i) r14 [] false C181_holds hr14 rfl rfl (AI rfl (AI NH (R2 (AJ (AI TV (gY (cF (EI ((r14 == (1:Int)),(i64.wrap (i + (1:Int)))) (AI q (E4 I3 (R4 (AI (R3 TV) (R3 TV))))))))))))))))
    refine gN (gN (gN (gN (cT (EI (true,(i64.wrap (i + (1:Int)))) (AI q (E4 I3 (R4 (AI (R3 TV) (R3 TV))))))))))
   cases sE q
   refine E4 [(0,some 1),(1,some 2)] (R2 (AI (R2 TV) (R2 TV)))
  refine AI (OL (OL (cI q (fun q=>?_) (fun q=>?_)))) TV
  ·obtain ⟨r15,hr15,q⟩ := bE q
   refine OL (AI f182_in (cV (cQ C182 (z5.1,z5.2.1,z5.2.2.1,z5.2.2.2,(1:Int),(0:Int),(0:Int),(0:Int)) r15 [] false C182_holds hr15 rfl rfl (AI NH (R2 (AI (R2 TV) (AI TV (OL (OL (OL ?_))))))))))
   cases sE q
   refine AI rfl (E4 [] (AI rfl (AJ TV)))
  refine OL (OL ?_)
  cases sE q
  refine AI rfl (E4 [] (AI rfl (AJ TV)))
 dsimp only [sumF] at q
 refine AI ?_ TV
 cases sE q
 refine AI rfl (E4 [] (AI rfl (AJ TV)))
theorem C180_holds : HP C180 180 := hH Tryz.f180 (by kernel_rfl) rfl (fun x y q=>C180_vc x.1 x.2.1 x.2.2.1 x.2.2.2.1 x.2.2.2.2.1 x.2.2.2.2.2 y q)
theorem f180_in : InP 180 := inP (by kernel_rfl)
def f131 (a:Int) (b:Int) : Option Int :=
 bindF (f179 a b) fun r1 =>
 bindF (f180 r1.1 r1.2.1 r1.2.2.1 r1.2.2.2.1 r1.2.2.2.2 (32:Int)) fun r2 =>
 bindF (f120 r2.1 r2.2.1 r2.2.2.1 r2.2.2.2.1 r2.2.2.2.2) fun r3 =>
 some r3
def C131 : Con where
 X := Int×Int
 Y := Int
 e := 0
 args x := [.dat T2 x.1,.dat T2 x.2]
 hin x := []
 F x := f131 x.1 x.2
 ret y := [.dat T2 y]
 hout y := []
 nout := 0
theorem C131_vc (a:Int) (b:Int) (y:Int) (q : f131 a b = some y) : VC Tryz.f131 C131 (a,b) y := by
 unfold f131 at q
 refine OL (OL ?_)
 obtain ⟨r1,hr1,q⟩ := bE q
 refine OL (AI f179_in (cV (cQ C179 (a,b) r1 [] false C179_holds hr1 rfl rfl (R2 (K0 ?_)))))
 obtain ⟨r2,hr2,q⟩ := bE q
 refine OL (AI f180_in (cV (cQ C180 (r1.1,r1.2.1,r1.2.2.1,r1.2.2.2.1,r1.2.2.2.2,(32:Int)) r2 [] false C180_holds hr2 rfl rfl (AI rfl (AI NH (R2 (AJ (AI TV ?_))))))))
 obtain ⟨r3,hr3,q⟩ := bE q
 refine OL (AI f120_in (cV (cQ C120 (r2.1,r2.2.1,r2.2.2.1,r2.2.2.2.1,r2.2.2.2.2) r3 [] false C120_holds hr3 rfl rfl (AI NH (R2 (AJ (AI TV ?_)))))))
 cases sE q
 refine AI rfl (E4 [] (R2 (AI TV TV)))
theorem C131_holds : HP C131 131 := hH Tryz.f131 (by kernel_rfl) rfl (fun x y q=>C131_vc x.1 x.2 y q)
theorem f131_in : InP 131 := inP (by kernel_rfl)
def f77_j3 (a : LI×LI) (b : LI×LI) : Option Bool :=
 bindF (f62 (a.1,a.2)) fun r9 =>
 bif (!r9) then
 some true
 else
 bindF (f62 (b.1,b.2)) fun r10 =>
 some (!r10)
def f77_j2 (a : LI×LI) (b : LI×LI) : Option (Sum Unit Unit) :=
 bindF (f77_j3 a b) fun z8 =>
 bif z8 then
 some (Sum.inr ())
 else
 some (Sum.inl ())
def f77_l4 (op:Int) (a : LI×LI) (b : LI×LI) (r11 : Int×LI) (go : (Int×LI) → Option LI) (i:Int) (l6 : LI) : Option LI :=
 bif (decide (i < (List.length l6:Int))) then
 bindF (f128 a.1 r11.2 i) fun r18 =>
 bindF (f128 b.1 r11.2 i) fun r19 =>
 bif (op == (0:Int)) then
 guardF (0 ≤ r18.1 ∧ r18.1 < (List.length a.2:Int)) <|
 guardF (0 ≤ r19.1 ∧ r19.1 < (List.length b.2:Int)) <|
 bindF (f129 (rd (0:Int) a.2 r18.1) (rd (0:Int) b.2 r19.1)) fun q15_13 =>
 guardF (0 ≤ i ∧ i < (List.length l6:Int)) <|
 go ((i64.wrap (i + (1:Int))),(List.set l6 (Int.toNat i) q15_13))
 else
 bif (op == (1:Int)) then
 guardF (0 ≤ r18.1 ∧ r18.1 < (List.length a.2:Int)) <|
 guardF (0 ≤ r19.1 ∧ r19.1 < (List.length b.2:Int)) <|
 bindF (f130 (rd (0:Int) a.2 r18.1) (rd (0:Int) b.2 r19.1)) fun q17_13 =>
 guardF (0 ≤ i ∧ i < (List.length l6:Int)) <|
 go ((i64.wrap (i + (1:Int))),(List.set l6 (Int.toNat i) q17_13))
 else
 guardF (0 ≤ r18.1 ∧ r18.1 < (List.length a.2:Int)) <|
 guardF (0 ≤ r19.1 ∧ r19.1 < (List.length b.2:Int)) <|
 bindF (f131 (rd (0:Int) a.2 r18.1) (rd (0:Int) b.2 r19.1)) fun q13_13 =>
 guardF (0 ≤ i ∧ i < (List.length l6:Int)) <|
 go ((i64.wrap (i + (1:Int))),(List.set l6 (Int.toNat i) q13_13))
 else
 some l6
def f77 (op:Int) (a : LI×LI) (b : LI×LI) : Option (Int×LI×LI) :=
 bindF (f77_j2 a b) fun z5 =>
 sumF z5 (fun z5a =>
 bindF (f127 a.1 b.1) fun r11 =>
 bif (r11.1 != (0:Int)) then
 some (r11.1,[],[])
 else
 bindF (f71 r11.2 (0:Int)) fun r12 =>
 bindF (loopF (fun go x=>f77_l4 op a b r11 go x.1 x.2) fuelN ((0:Int),r12.2)) fun z17 =>
 some ((0:Int),r12.1,z17)) (fun z5b =>
 some ((1:Int),[],[]))
def C77 : Con where
 X := Int×(LI×LI)×(LI×LI)
 Y := Int×LI×LI
 e := 0
 args x := [.dat T2 x.1,.dat T3 x.2.1,.dat T3 x.2.2]
 hin x := []
 F x := f77 x.1 x.2.1 x.2.2
 ret y := [.raw true [(.osl 0),(.osl 1)],.dat T2 y.1]
 hout y := [(0,.arr 3 T2 y.2.1),(1,.arr 40 T2 y.2.2)]
 nout := 2
theorem C77_vc (op:Int) (a : LI×LI) (b : LI×LI) (y : Int×LI×LI) (q : f77 op a b = some y) : VC Tryz.f77 C77 (op,a,b) y := by
 unfold f77 at q
 refine OL ?_
 obtain ⟨z5,hz5,q⟩ := bE q
 refine OQ ⟨Sum.elim (fun z5a=>[(0,⟨[(0,.dat T2 op),(4,P0 0 0),(5,P0 1 0),(6,P0 2 0)],[(0,.cells [(.d T1 a.1),(.d T1 a.2)]),(1,.cells [(.d T1 b.1),(.d T1 b.2)]),(2,.cells [N0,N0])],3⟩)]) (fun z5b=>[(1,⟨[(6,P0 0 0),(7,D0 1)],[(0,.cells [N0,N0])],1⟩)]) z5,?_,?_⟩
 ·have q := hz5
  clear hz5
  unfold f77_j2 at q
  obtain ⟨z8,hz8,q⟩ := bE q
  refine OQ ⟨[(0,⟨[(0,.dat T2 op),(4,P0 0 0),(5,P0 1 0),(6,P0 2 0),(23,.dat .bool z8)],[(0,.cells [(.d T1 a.1),(.d T1 a.2)]),(1,.cells [(.d T1 b.1),(.d T1 b.2)]),(2,.cells [N0,N0])],3⟩)],?_,?_⟩
  ·have q := hz8
   clear hz8
   unfold f77_j3 at q
   obtain ⟨r9,hr9,q⟩ := bE q
   refine OL (AI f62_in (cV (cQ C62 (a.1,a.2) r9 [] false C62_holds hr9 rfl rfl (R2 (K0 (cN q (fun q=>?_) (fun q=>?_)))))))
   ·refine gY ?_
    obtain ⟨r10,hr10,q⟩ := bE q
    refine OL (AI f62_in (cV (cQ C62 (b.1,b.2) r10 [] false C62_holds hr10 rfl rfl (R2 (K0 (gY (cF ?_)))))))
    cases sE q
    refine E4 I3 (R3 (AI (R3 TV) (R3 TV)))
   refine gN (gN (cT ?_))
   cases sE q
   refine E4 I3 (R3 (AI (R3 TV) (R3 TV)))
  refine AI (cI q (fun q=>?_) (fun q=>?_)) TV
  ·refine OL (OL ?_)
   cases sE q
   refine E4 [(0,some 2)] (R2 (AJ (AI rfl TV)))
  cases sE q
  refine E4 I3 (R2 (AI (R3 TV) (R3 TV)))
 rcases z5 with z5a | z5b
 ·dsimp only [sumF] at q
  refine AI (OL ?_) TV
  obtain ⟨r11,hr11,q⟩ := bE q
  refine OL (AI f127_in (cV (cQ C127 (a.1,b.1) r11 [] false C127_holds hr11 rfl rfl (R2 (K0 (OL (OL (cI q (fun q=>?_) (fun q=>?_)))))))))
  ·refine OL (OL ?_)
   cases sE q
   refine AI rfl (E4 [(0,none),(1,none)] (R2 (AJ (R2 TV))))
  refine OL ?_
  obtain ⟨r12,hr12,q⟩ := bE q
  refine OL (AI f71_in (cV (cQ C71 (r11.2,(0:Int)) r12 [] true C71_holds hr12 rfl rfl (R2 (AI (fun _=>rfl) (R2 (AI TV (AI TV (OL (OL (OL ?_)))))))))))
  obtain ⟨z17,hz17,q⟩ := bE q
  refine lI (Int×LI) LI (fun x=>⟨[(0,.dat T2 op),(4,P0 0 0),(5,P0 1 0),(6,P0 2 0),(8,O0 3),(10,P0 4 0),(11,.dat T2 x.1)],[(0,.cells [(.d T1 a.1),(.d T1 a.2)]),(1,.cells [(.d T1 b.1),(.d T1 b.2)]),(2,.cells [N0,N0]),(3,.arr 3 T2 r11.2),(4,.cells [(.osl 5),(.osl 6)]),(5,.arr 3 T2 r12.1),(6,.arr 40 T2 x.2)],7⟩) (fun z=>[(2,⟨[(6,P0 0 0),(10,P0 1 0)],[(0,.cells [N0,N0]),(1,.cells [(.osl 2),(.osl 3)]),(2,.arr 3 T2 r12.1),(3,.arr 40 T2 z)],4⟩)]) (loopF (fun go x=>f77_l4 op a b r11 go x.1 x.2)) fuelN ((0:Int),r12.2) z17 (AI hz17 (AI (E4 [(0,some 0),(1,some 1),(2,some 2),(3,some 3),(4,some 6),(5,some 4),(6,some 5)] (R3 (AI (R5 TV) (R7 TV)))) (AI (fun _ _ h=>lZ h) (AI (fun m=>curI (fun i=>fun l6 z q=>?_)) ?_))))
  ·have q : f77_l4 op a b r11 (loopF (fun go x=>f77_l4 op a b r11 go x.1 x.2) m) i l6 = some z := q
   unfold f77_l4 at q
   refine OL (OL (cI q (fun q=>?_) (fun q=>?_)))
   ·refine OL (OL ?_)
    obtain ⟨r18,hr18,q⟩ := bE q
    refine OL (AI f128_in (cV (cQ C128 (a.1,r11.2,i) r18 [] true C128_holds hr18 rfl rfl (R3 (AI (fun _=>rfl) (R2 (AI TV (AI TV (OL ?_)))))))))
    obtain ⟨r19,hr19,q⟩ := bE q
    refine OL (AI f128_in (cV (cQ C128 (b.1,r11.2,i) r19 [] true C128_holds hr19 rfl rfl (R3 (AI (fun _=>rfl) (R2 (AI TV (AI TV (OL (OL (cI q (fun q=>?_) (fun q=>?_))))))))))))
    ·refine EI (.take 0 (.take 1 (.take 2 (.take 3 (.take 4 (.take 5 (.take 6 (.take 7 (.take 8 (.take 9 (.take 10 (.take 11 (.take 12 (.alt 13 (.take 14 (.alt 15 .done .done)) .done)))))))))))))) (EI [] (EI [] (AI rfl (gI q (fun q=>?_)))))
     refine gI q (fun q=>?_)
     refine AI TV ?_
     obtain ⟨q15_13,hq15_13,q⟩ := bE q
     refine OL (AI f129_in (cV (cQ C129 ((rd (0:Int) a.2 r18.1),(rd (0:Int) b.2 r19.1)) q15_13 [] false C129_holds hq15_13 rfl rfl (R2 (K0 (gI q (fun q=>?_)))))))
     refine AI TV (OL (EI ((i64.wrap (i + (1:Int))),(List.set l6 (Int.toNat i) q15_13)) (AI q (E4 I7 (R3 (AI (R5 TV) (R7 TV)))))))
    refine OL (cI q (fun q=>?_) (fun q=>?_))
    ·refine EI (.take 0 (.take 1 (.take 2 (.take 3 (.take 4 (.take 5 (.take 6 (.take 7 (.take 8 (.take 9 (.take 10 (.take 11 (.take 12 (.alt 13 (.take 14 (.alt 15 .done .done)) .done)))))))))))))) (EI [] (EI [] (AI rfl (gI q (fun q=>?_)))))
     refine gI q (fun q=>?_)
     refine AI TV ?_
     obtain ⟨q17_13,hq17_13,q⟩ := bE q
     refine OL (AI f130_in (cV (cQ C130 ((rd (0:Int) a.2 r18.1),(rd (0:Int) b.2 r19.1)) q17_13 [] false C130_holds hq17_13 rfl rfl (R2 (K0 (gI q (fun q=>?_)))))))
     refine AI TV (OL (EI ((i64.wrap (i + (1:Int))),(List.set l6 (Int.toNat i) q17_13)) (AI q (E4 I7 (R3 (AI (R5 TV) (R7 TV)))))))
    refine EI (.take 0 (.take 1 (.take 2 (.take 3 (.take 4 (.take 5 (.take 6 (.take 7 (.take 8 (.take 9 (.take 10 (.take 11 (.take 12 (.alt 13 (.take 14 (.alt 15 .done .done)) .done)))))))))))))) (EI [] (EI [] (AI rfl (gI q (fun q=>?_)))))
    refine gI q (fun q=>?_)
    refine AI TV ?_
    obtain ⟨q13_13,hq13_13,q⟩ := bE q
    refine OL (AI f131_in (cV (cQ C131 ((rd (0:Int) a.2 r18.1),(rd (0:Int) b.2 r19.1)) q13_13 [] false C131_holds hq13_13 rfl rfl (R2 (K0 (gI q (fun q=>?_)))))))
    refine AI TV (OL (EI ((i64.wrap (i + (1:Int))),(List.set l6 (Int.toNat i) q13_13)) (AI q (E4 I7 (R3 (AI (R5 TV) (R7 TV)))))))
   cases sE q
   refine E4 [(0,some 2),(1,some 4),(2,some 5),(3,some 6)] (AI rfl (AI (R2 TV) (R4 TV)))
  refine AI (OL (OL ?_)) TV
  cases sE q
  refine AI rfl (E4 [(0,some 2),(1,some 3)] (R2 (AJ (R2 TV))))
 dsimp only [sumF] at q
 refine AI ?_ TV
 cases sE q
 refine AI rfl (E4 [(0,none),(1,none)] (R2 (AJ (R2 TV))))
theorem C77_holds : HP C77 77 := hH Tryz.f77 (by kernel_rfl) rfl (fun x y q=>C77_vc x.1 x.2.1 x.2.2 y q)
theorem f77_in : InP 77 := inP (by kernel_rfl)
def f115_l1 (a : LI×LI) (k:Int) (go : (Int×LI) → Option LI) (i:Int) (l4 : LI) : Option LI :=
 bif (decide (i < (List.length l4:Int))) then
 guardF (0 ≤ i ∧ i < (List.length a.2:Int)) <|
 bindF (f131 (rd (0:Int) a.2 i) k) fun q7_9 =>
 guardF (0 ≤ i ∧ i < (List.length l4:Int)) <|
 go ((i64.wrap (i + (1:Int))),(List.set l4 (Int.toNat i) q7_9))
 else
 some l4
def f115 (a : LI×LI) (k:Int) : Option (Int×LI×LI) :=
 bindF (f62 (a.1,a.2)) fun q7_11 =>
 bif (!q7_11) then
 some ((1:Int),[],[])
 else
 bindF (f71 a.1 (0:Int)) fun r1 =>
 bindF (loopF (fun go x=>f115_l1 a k go x.1 x.2) fuelN ((0:Int),r1.2)) fun z2 =>
 some ((0:Int),r1.1,z2)
def C115 : Con where
 X := (LI×LI)×Int
 Y := Int×LI×LI
 e := 0
 args x := [.dat T3 x.1,.dat T2 x.2]
 hin x := []
 F x := f115 x.1 x.2
 ret y := [.raw true [(.osl 0),(.osl 1)],.dat T2 y.1]
 hout y := [(0,.arr 3 T2 y.2.1),(1,.arr 40 T2 y.2.2)]
 nout := 2
theorem C115_vc (a : LI×LI) (k:Int) (y : Int×LI×LI) (q : f115 a k = some y) : VC Tryz.f115 C115 (a,k) y := by
 unfold f115 at q
 refine OL (OL (OL ?_))
 obtain ⟨q7_11,hq7_11,q⟩ := bE q
 refine OL (AI f62_in (cV (cQ C62 (a.1,a.2) q7_11 [] false C62_holds hq7_11 rfl rfl (R2 (K0 (cI q (fun q=>?_) (fun q=>?_)))))))
 ·refine OL (OL ?_)
  cases sE q
  refine AI rfl (E4 [(0,none),(1,none)] (R2 (AJ (R2 TV))))
 refine OL ?_
 obtain ⟨r1,hr1,q⟩ := bE q
 refine OL (AI f71_in (cV (cQ C71 (a.1,(0:Int)) r1 [] false C71_holds hr1 rfl rfl (R2 (K0 (OL (OL (OL ?_))))))))
 obtain ⟨z2,hz2,q⟩ := bE q
 refine lI (Int×LI) LI (fun x=>⟨[(1,.dat T2 k),(2,P0 0 0),(4,P0 1 0),(6,P0 2 0),(7,.dat T2 x.1)],[(0,.cells [(.d T1 a.1),(.d T1 a.2)]),(1,.cells [N0,N0]),(2,.cells [(.osl 3),(.osl 4)]),(3,.arr 3 T2 r1.1),(4,.arr 40 T2 x.2)],5⟩) (fun z=>[(2,⟨[(4,P0 0 0),(6,P0 1 0)],[(0,.cells [N0,N0]),(1,.cells [(.osl 2),(.osl 3)]),(2,.arr 3 T2 r1.1),(3,.arr 40 T2 z)],4⟩)]) (loopF (fun go x=>f115_l1 a k go x.1 x.2)) fuelN ((0:Int),r1.2) z2 (AI hz2 (AI (E4 [(0,some 0),(1,some 1),(2,some 4),(3,some 2),(4,some 3)] (R3 (AI (R3 TV) (R5 TV)))) (AI (fun _ _ h=>lZ h) (AI (fun m=>curI (fun i=>fun l4 z q=>?_)) ?_))))
 ·have q : f115_l1 a k (loopF (fun go x=>f115_l1 a k go x.1 x.2) m) i l4 = some z := q
  unfold f115_l1 at q
  refine OL (OL (cI q (fun q=>?_) (fun q=>?_)))
  ·refine OL (EI (.take 0 (.take 1 (.take 2 (.take 3 (.take 4 (.take 5 (.take 6 (.take 7 (.take 8 (.alt 9 (.take 10 (.alt 11 .done .done)) .done)))))))))) (EI [] (EI [] (AI rfl (gI q (fun q=>?_))))))
   refine AI TV ?_
   obtain ⟨q7_9,hq7_9,q⟩ := bE q
   refine OL (AI f131_in (cV (cQ C131 ((rd (0:Int) a.2 i),k) q7_9 [] false C131_holds hq7_9 rfl rfl (R2 (K0 (gI q (fun q=>?_)))))))
   refine AI TV (OL (EI ((i64.wrap (i + (1:Int))),(List.set l4 (Int.toNat i) q7_9)) (AI q (E4 I5 (R3 (AI (R3 TV) (R5 TV)))))))
  cases sE q
  refine E4 [(0,some 1),(1,some 2),(2,some 3),(3,some 4)] (AI rfl (AI (R2 TV) (R4 TV)))
 refine AI (OL (OL ?_)) TV
 cases sE q
 refine AI rfl (E4 [(0,some 2),(1,some 3)] (R2 (AJ (R2 TV))))
theorem C115_holds : HP C115 115 := hH Tryz.f115 (by kernel_rfl) rfl (fun x y q=>C115_vc x.1 x.2 y q)
theorem f115_in : InP 115 := inP (by kernel_rfl)
def f117_j3 (a : LI×LI) (b : LI×LI) : Option Bool :=
 bindF (f62 (a.1,a.2)) fun r9 =>
 bif (!r9) then
 some true
 else
 bindF (f62 (b.1,b.2)) fun r10 =>
 some (!r10)
def f117_j2 (a : LI×LI) (b : LI×LI) : Option (Sum Unit Unit) :=
 bindF (f117_j3 a b) fun z8 =>
 bif z8 then
 some (Sum.inr ())
 else
 some (Sum.inl ())
def f117_j6 (a : LI×LI) (b : LI×LI) : Option Bool :=
 bif ((List.length a.1:Int) != (2:Int)) then
 some true
 else
 bif ((List.length b.1:Int) != (2:Int)) then
 some true
 else
 guardF (0 ≤ (1:Int) ∧ (1:Int) < (List.length a.1:Int)) <|
 guardF (0 ≤ (0:Int) ∧ (0:Int) < (List.length b.1:Int)) <|
 some ((rd (0:Int) a.1 (1:Int)) != (rd (0:Int) b.1 (0:Int)))
def f117_j5 (a : LI×LI) (b : LI×LI) : Option (Sum Unit Unit) :=
 bindF (f117_j6 a b) fun z13 =>
 bif z13 then
 some (Sum.inr ())
 else
 some (Sum.inl ())
def f117_l19 (a : LI×LI) (b : LI×LI) (i:Int) (j:Int) (go : (Int×Bool×Int×Int×Int×Int) → Option (Bool×Int×Int×Int×Int)) (q_:Int) (c4_0 : Bool) (c4_1:Int) (c4_2:Int) (c4_3:Int) (c4_4:Int) : Option (Bool×Int×Int×Int×Int) :=
 bif (decide (q_ < (rd (0:Int) a.1 (1:Int)))) then
 guardF (0 ≤ (i64.wrap ((i64.wrap (i * (rd (0:Int) a.1 (1:Int)))) + q_)) ∧ (i64.wrap ((i64.wrap (i * (rd (0:Int) a.1 (1:Int)))) + q_)) < (List.length a.2:Int)) <|
 guardF (0 ≤ (i64.wrap ((i64.wrap (q_ * (rd (0:Int) b.1 (1:Int)))) + j)) ∧ (i64.wrap ((i64.wrap (q_ * (rd (0:Int) b.1 (1:Int)))) + j)) < (List.length b.2:Int)) <|
 bindF (f179 (rd (0:Int) a.2 (i64.wrap ((i64.wrap (i * (rd (0:Int) a.1 (1:Int)))) + q_))) (rd (0:Int) b.2 (i64.wrap ((i64.wrap (q_ * (rd (0:Int) b.1 (1:Int)))) + j)))) fun q19_19 =>
 bindF (f139 c4_0 c4_1 c4_2 c4_3 c4_4 q19_19.1 q19_19.2.1 q19_19.2.2.1 q19_19.2.2.2.1 q19_19.2.2.2.2) fun q19_20 =>
 go ((i64.wrap (q_ + (1:Int))),q19_20.1,q19_20.2.1,q19_20.2.2.1,q19_20.2.2.2.1,q19_20.2.2.2.2)
 else
 some (c4_0,c4_1,c4_2,c4_3,c4_4)
def f117_l18 (a : LI×LI) (b : LI×LI) (i:Int) (go : (Int×LI) → Option LI) (j:Int) (l5_2 : LI) : Option LI :=
 bif (decide (j < (rd (0:Int) b.1 (1:Int)))) then
 bindF (loopF (fun go x=>f117_l19 a b i j go x.1 x.2.1 x.2.2.1 x.2.2.2.1 x.2.2.2.2.1 x.2.2.2.2.2) fuelN ((0:Int),false,(0:Int),(0:Int),(0:Int),(0:Int))) fun z27 =>
 bindF (f180 z27.1 z27.2.1 z27.2.2.1 z27.2.2.2.1 z27.2.2.2.2 (32:Int)) fun q20_8 =>
 bindF (f120 q20_8.1 q20_8.2.1 q20_8.2.2.1 q20_8.2.2.2.1 q20_8.2.2.2.2) fun q20_9 =>
 guardF (0 ≤ (i64.wrap ((i64.wrap (i * (rd (0:Int) b.1 (1:Int)))) + j)) ∧ (i64.wrap ((i64.wrap (i * (rd (0:Int) b.1 (1:Int)))) + j)) < (List.length l5_2:Int)) <|
 go ((i64.wrap (j + (1:Int))),(List.set l5_2 (Int.toNat (i64.wrap ((i64.wrap (i * (rd (0:Int) b.1 (1:Int)))) + j))) q20_9))
 else
 some l5_2
def f117_l15 (a : LI×LI) (b : LI×LI) (go : (Int×LI) → Option LI) (i:Int) (l5 : LI) : Option LI :=
 bif (decide (i < (rd (0:Int) a.1 (0:Int)))) then
 bindF (loopF (fun go x=>f117_l18 a b i go x.1 x.2) fuelN ((0:Int),l5)) fun z26 =>
 go ((i64.wrap (i + (1:Int))),z26)
 else
 some l5
def f117 (a : LI×LI) (b : LI×LI) : Option (Int×LI×LI) :=
 bindF (f117_j2 a b) fun z5 =>
 sumF z5 (fun z5a =>
 bindF (f117_j5 a b) fun z12 =>
 sumF z12 (fun z12a =>
 guardF (0 ≤ (0:Int) ∧ (0:Int) < (List.length a.1:Int)) <|
 guardF (0 ≤ (1:Int) ∧ (1:Int) < (List.length b.1:Int)) <|
 guardF (0 ≤ (1:Int) ∧ (1:Int) < (List.length a.1:Int)) <|
 bindF (f102 ([(rd (0:Int) a.1 (0:Int)),(rd (0:Int) b.1 (1:Int))])) fun q5_14 =>
 bif (!q5_14) then
 some ((2:Int),[],[])
 else
 bindF (f71 ([(rd (0:Int) a.1 (0:Int)),(rd (0:Int) b.1 (1:Int))]) (0:Int)) fun r14 =>
 bindF (loopF (fun go x=>f117_l15 a b go x.1 x.2) fuelN ((0:Int),r14.2)) fun z23 =>
 some ((0:Int),r14.1,z23)) (fun z12b =>
 some ((4:Int),[],[]))) (fun z5b =>
 some ((1:Int),[],[]))
def C117 : Con where
 X := (LI×LI)×(LI×LI)
 Y := Int×LI×LI
 e := 0
 args x := [.dat T3 x.1,.dat T3 x.2]
 hin x := []
 F x := f117 x.1 x.2
 ret y := [.raw true [(.osl 0),(.osl 1)],.dat T2 y.1]
 hout y := [(0,.arr 3 T2 y.2.1),(1,.arr 40 T2 y.2.2)]
 nout := 2
theorem C117_vc (a : LI×LI) (b : LI×LI) (y : Int×LI×LI) (q : f117 a b = some y) : VC Tryz.f117 C117 (a,b) y := by
 unfold f117 at q
 refine OL ?_
 obtain ⟨z5,hz5,q⟩ := bE q
 refine OQ ⟨Sum.elim (fun z5a=>[(0,⟨[(2,P0 0 0),(3,P0 1 0),(4,P0 2 0)],[(0,.cells [(.d T1 a.1),(.d T1 a.2)]),(1,.cells [(.d T1 b.1),(.d T1 b.2)]),(2,.cells [N0,N0])],3⟩)]) (fun z5b=>[(1,⟨[(4,P0 0 0),(5,D0 1)],[(0,.cells [N0,N0])],1⟩)]) z5,?_,?_⟩
 ·have q := hz5
  clear hz5
  unfold f117_j2 at q
  obtain ⟨z8,hz8,q⟩ := bE q
  refine OQ ⟨[(0,⟨[(2,P0 0 0),(3,P0 1 0),(4,P0 2 0),(21,.dat .bool z8)],[(0,.cells [(.d T1 a.1),(.d T1 a.2)]),(1,.cells [(.d T1 b.1),(.d T1 b.2)]),(2,.cells [N0,N0])],3⟩)],?_,?_⟩
  ·have q := hz8
   clear hz8
   unfold f117_j3 at q
   obtain ⟨r9,hr9,q⟩ := bE q
   refine OL (AI f62_in (cV (cQ C62 (a.1,a.2) r9 [] false C62_holds hr9 rfl rfl (R2 (K0 (cN q (fun q=>?_) (fun q=>?_)))))))
   ·refine gY ?_
    obtain ⟨r10,hr10,q⟩ := bE q
    refine OL (AI f62_in (cV (cQ C62 (b.1,b.2) r10 [] false C62_holds hr10 rfl rfl (R2 (K0 (gY (cF ?_)))))))
    cases sE q
    refine E4 I3 (R2 (AI (R3 TV) (R3 TV)))
   refine gN (gN (cT ?_))
   cases sE q
   refine E4 I3 (R2 (AI (R3 TV) (R3 TV)))
  refine AI (cI q (fun q=>?_) (fun q=>?_)) TV
  ·refine OL (OL ?_)
   cases sE q
   refine E4 [(0,some 2)] (R2 (AJ (AI rfl TV)))
  cases sE q
  refine E4 I3 (AI rfl (AI (R3 TV) (R3 TV)))
 rcases z5 with z5a | z5b
 ·dsimp only [sumF] at q
  refine AI ?_ TV
  obtain ⟨z12,hz12,q⟩ := bE q
  refine OQ ⟨Sum.elim (fun z12a=>[(0,⟨[(2,P0 0 0),(3,P0 1 0),(4,P0 2 0)],[(0,.cells [(.d T1 a.1),(.d T1 a.2)]),(1,.cells [(.d T1 b.1),(.d T1 b.2)]),(2,.cells [N0,N0])],3⟩)]) (fun z12b=>[(1,⟨[(4,P0 0 0),(5,D0 4)],[(0,.cells [N0,N0])],1⟩)]) z12,?_,?_⟩
  ·have q := hz12
   clear hz12
   unfold f117_j5 at q
   obtain ⟨z13,hz13,q⟩ := bE q
   refine OQ ⟨[(0,⟨[(2,P0 0 0),(3,P0 1 0),(4,P0 2 0),(43,.dat .bool z13)],[(0,.cells [(.d T1 a.1),(.d T1 a.2)]),(1,.cells [(.d T1 b.1),(.d T1 b.2)]),(2,.cells [N0,N0])],3⟩)],?_,?_⟩
   ·have q := hz13
    clear hz13
    unfold f117_j6 at q
    refine EI (.take 0 (.take 1 (.take 2 (.take 3 (.take 4 (.take 5 (.take 6 (.take 7 (.take 8 (.take 9 (.take 10 (.take 11 (.take 12 (.take 13 (.take 14 (.take 15 (.take 16 (.take 17 (.take 18 (.take 19 (.take 20 .done))))))))))))))))))))) (EI [] (EI [] (AI rfl (cN q (fun q=>?_) (fun q=>?_)))))
    ·refine gY (gY (gY (cF (cN q (fun q=>?_) (fun q=>?_)))))
     ·refine gY (gY (gI q (fun q=>?_)))
      refine gY (gY (gY (gY (gI q (fun q=>?_)))))
      refine gY (gY (cF ?_))
      cases sE q
      refine E4 I3 (R2 (AI (R3 TV) (R3 TV)))
     refine gN (gN (gN (gN (gN (gN (gN (gN (cT ?_))))))))
     cases sE q
     refine E4 I3 (R2 (AI (R3 TV) (R3 TV)))
    refine gN (gN (gN (cT (gN (gN (gN (gN (gN (gN (gN (gN (gN (cT ?_)))))))))))))
    cases sE q
    refine E4 I3 (R2 (AI (R3 TV) (R3 TV)))
   refine AI (cI q (fun q=>?_) (fun q=>?_)) TV
   ·refine OL (OL ?_)
    cases sE q
    refine E4 [(0,some 2)] (R2 (AJ (AI rfl TV)))
   cases sE q
   refine E4 I3 (AI rfl (AI (R3 TV) (R3 TV)))
  rcases z12 with z12a | z12b
  ·dsimp only [sumF] at q
   refine AI (OL (EI (.take 0 (.take 1 (.take 2 (.take 3 (.take 4 (.take 5 (.take 6 (.take 7 (.take 8 (.take 9 (.take 10 (.take 11 (.take 12 (.take 13 (.take 14 .done))))))))))))))) (EI [] (EI [] (AI rfl (gI q (fun q=>?_))))))) TV
   refine gI q (fun q=>?_)
   refine gI q (fun q=>?_)
   refine OL (OL (OL ?_))
   obtain ⟨q5_14,hq5_14,q⟩ := bE q
   refine OL (AI f102_in (cV (cQ C102 [(rd (0:Int) a.1 (0:Int)),(rd (0:Int) b.1 (1:Int))] q5_14 [] true C102_holds hq5_14 rfl rfl (AI rfl (AI (fun _=>rfl) (R2 (AI TV (AI TV (cI q (fun q=>?_) (fun q=>?_))))))))))
   ·refine OL (OL ?_)
    cases sE q
    refine AI rfl (E4 [(0,none),(1,none)] (R2 (AJ (R2 TV))))
   refine OL (OL ?_)
   obtain ⟨r14,hr14,q⟩ := bE q
   refine OL (AI f71_in (cV (cQ C71 ([(rd (0:Int) a.1 (0:Int)),(rd (0:Int) b.1 (1:Int))],(0:Int)) r14 [] true C71_holds hr14 rfl rfl (R2 (AI (fun _=>rfl) (R2 (AI TV (AI TV (OL (OL (OL ?_)))))))))))
   obtain ⟨z23,hz23,q⟩ := bE q
   refine lI (Int×LI) LI (fun x=>⟨[(2,P0 0 0),(3,P0 1 0),(4,P0 2 0),(6,.dat T2 (rd (0:Int) a.1 (0:Int))),(7,.dat T2 (rd (0:Int) b.1 (1:Int))),(8,.dat T2 (rd (0:Int) a.1 (1:Int))),(9,P0 3 0),(10,.dat T2 x.1)],[(0,.cells [(.d T1 a.1),(.d T1 a.2)]),(1,.cells [(.d T1 b.1),(.d T1 b.2)]),(2,.cells [N0,N0]),(3,.cells [(.osl 4),(.osl 5)]),(4,.arr 3 T2 r14.1),(5,.arr 40 T2 x.2)],6⟩) (fun z=>[(2,⟨[(4,P0 0 0),(9,P0 1 0)],[(0,.cells [N0,N0]),(1,.cells [(.osl 2),(.osl 3)]),(2,.arr 3 T2 r14.1),(3,.arr 40 T2 z)],4⟩)]) (loopF (fun go x=>f117_l15 a b go x.1 x.2)) fuelN ((0:Int),r14.2) z23 (AI hz23 (AI (E4 [(0,some 0),(1,some 1),(2,some 2),(3,some 7),(4,some 5),(5,some 6)] (R5 (AI (R4 TV) (R6 TV)))) (AI (fun _ _ h=>lZ h) (AI (fun m=>curI (fun i=>fun l5 z q=>?_)) ?_))))
   ·have q : f117_l15 a b (loopF (fun go x=>f117_l15 a b go x.1 x.2) m) i l5 = some z := q
    unfold f117_l15 at q
    refine OL (OL (cI q (fun q=>?_) (fun q=>?_)))
    ·refine OL (OL ?_)
     obtain ⟨z26,hz26,q⟩ := bE q
     refine lI (Int×LI) LI (fun x=>⟨[(2,P0 0 0),(3,P0 1 0),(4,P0 2 0),(6,.dat T2 (rd (0:Int) a.1 (0:Int))),(7,.dat T2 (rd (0:Int) b.1 (1:Int))),(8,.dat T2 (rd (0:Int) a.1 (1:Int))),(9,P0 3 0),(10,.dat T2 i),(11,.dat T2 x.1)],[(0,.cells [(.d T1 a.1),(.d T1 a.2)]),(1,.cells [(.d T1 b.1),(.d T1 b.2)]),(2,.cells [N0,N0]),(3,.cells [(.osl 4),(.osl 5)]),(4,.arr 3 T2 r14.1),(5,.arr 40 T2 x.2)],6⟩) (fun z=>[(4,⟨[(2,P0 0 0),(3,P0 1 0),(4,P0 2 0),(6,.dat T2 (rd (0:Int) a.1 (0:Int))),(7,.dat T2 (rd (0:Int) b.1 (1:Int))),(8,.dat T2 (rd (0:Int) a.1 (1:Int))),(9,P0 3 0),(10,.dat T2 i)],[(0,.cells [(.d T1 a.1),(.d T1 a.2)]),(1,.cells [(.d T1 b.1),(.d T1 b.2)]),(2,.cells [N0,N0]),(3,.cells [(.osl 4),(.osl 5)]),(4,.arr 3 T2 r14.1),(5,.arr 40 T2 z)],6⟩)]) (loopF (fun go x=>f117_l18 a b i go x.1 x.2)) fuelN ((0:Int),l5) z26 (AI hz26 (AI (E4 I6 (R6 (AI (R4 TV) (R6 TV)))) (AI (fun _ _ h=>lZ h) (AI (fun m=>curI (fun j=>fun l5_2 z q=>?_)) ?_))))
     ·have q : f117_l18 a b i (loopF (fun go x=>f117_l18 a b i go x.1 x.2) m) j l5_2 = some z := q
      unfold f117_l18 at q
      refine OL (OL (cI q (fun q=>?_) (fun q=>?_)))
      ·refine OL (OL (OL (OL (OL ?_))))
       obtain ⟨z27,hz27,q⟩ := bE q
       refine lI (Int×Bool×Int×Int×Int×Int) (Bool×Int×Int×Int×Int) (fun x=>⟨[(2,P0 0 0),(3,P0 1 0),(4,P0 2 0),(6,.dat T2 (rd (0:Int) a.1 (0:Int))),(7,.dat T2 (rd (0:Int) b.1 (1:Int))),(8,.dat T2 (rd (0:Int) a.1 (1:Int))),(9,P0 3 0),(10,.dat T2 i),(11,.dat T2 j),(12,P0 4 0),(13,.dat T2 x.1)],[(0,.cells [(.d T1 a.1),(.d T1 a.2)]),(1,.cells [(.d T1 b.1),(.d T1 b.2)]),(2,.cells [N0,N0]),(3,.cells [(.osl 5),(.osl 6)]),(4,.cells [(.d .bool x.2.1),(.d T4 x.2.2.1),(.d T4 x.2.2.2.1),(.d T4 x.2.2.2.2.1),(.d T4 x.2.2.2.2.2)]),(5,.arr 3 T2 r14.1),(6,.arr 40 T2 l5_2)],7⟩) (fun z=>[(6,⟨[(2,P0 0 0),(3,P0 1 0),(4,P0 2 0),(6,.dat T2 (rd (0:Int) a.1 (0:Int))),(7,.dat T2 (rd (0:Int) b.1 (1:Int))),(8,.dat T2 (rd (0:Int) a.1 (1:Int))),(9,P0 3 0),(10,.dat T2 i),(11,.dat T2 j),(12,P0 4 0)],[(0,.cells [(.d T1 a.1),(.d T1 a.2)]),(1,.cells [(.d T1 b.1),(.d T1 b.2)]),(2,.cells [N0,N0]),(3,.cells [(.osl 5),(.osl 6)]),(4,.cells [(.d .bool z.1),(.d T4 z.2.1),(.d T4 z.2.2.1),(.d T4 z.2.2.2.1),(.d T4 z.2.2.2.2)]),(5,.arr 3 T2 r14.1),(6,.arr 40 T2 l5_2)],7⟩)]) (loopF (fun go x=>f117_l19 a b i j go x.1 x.2.1 x.2.2.1 x.2.2.2.1 x.2.2.2.2.1 x.2.2.2.2.2)) fuelN ((0:Int),false,(0:Int),(0:Int),(0:Int),(0:Int)) z27 (AI hz27 (AI (E4 [(0,some 0),(1,some 1),(2,some 2),(3,some 3),(4,some 6),(5,some 4),(6,some 5)] (R7 (AI (R5 TV) (R7 TV)))) (AI (fun _ _ h=>lZ h) (AI (fun m=>curI (fun q_=>curI (fun c4_0=>curI (fun c4_1=>curI (fun c4_2=>curI (fun c4_3=>fun c4_4 z q=>?_)))))) ?_))))
       ·have q : f117_l19 a b i j (loopF (fun go x=>f117_l19 a b i j go x.1 x.2.1 x.2.2.1 x.2.2.2.1 x.2.2.2.2.1 x.2.2.2.2.2) m) q_ c4_0 c4_1 c4_2 c4_3 c4_4 = some z := q
        unfold f117_l19 at q
        refine OL (OL (cI q (fun q=>?_) (fun q=>?_)))
        ·refine OL (EI (.take 0 (.take 1 (.take 2 (.take 3 (.take 4 (.take 5 (.take 6 (.take 7 (.take 8 (.take 9 (.take 10 (.take 11 (.take 12 (.take 13 (.take 14 (.take 15 (.take 16 (.take 17 (.take 18 (.alt 19 (.alt 20 (.alt 21 .done .done) .done) .done)))))))))))))))))))) (EI [(21,[4])] (EI [] (AI rfl (gI q (fun q=>?_))))))
         refine gI q (fun q=>?_)
         refine AI TV ?_
         obtain ⟨q19_19,hq19_19,q⟩ := bE q
         refine OL (AI f179_in (cV (cQ C179 ((rd (0:Int) a.2 (i64.wrap ((i64.wrap (i * (rd (0:Int) a.1 (1:Int)))) + q_))),(rd (0:Int) b.2 (i64.wrap ((i64.wrap (q_ * (rd (0:Int) b.1 (1:Int)))) + j)))) q19_19 [] false C179_holds hq19_19 rfl rfl (R2 (K0 (AI TV ?_))))))
         obtain ⟨q19_20,hq19_20,q⟩ := bE q
         refine OL (AI f139_in (cV (cQ C139 (c4_0,c4_1,c4_2,c4_3,c4_4,q19_19.1,q19_19.2.1,q19_19.2.2.1,q19_19.2.2.2.1,q19_19.2.2.2.2) q19_20 [] false C139_holds hq19_20 rfl rfl (AI NH (R2 (AI (R2 TV) (AI TV (AI TV (OL (EI ((i64.wrap (q_ + (1:Int))),q19_20.1,q19_20.2.1,q19_20.2.2.1,q19_20.2.2.2.1,q19_20.2.2.2.2) (AI q (E4 I7 (R7 (AI (R5 TV) (R7 TV)))))))))))))))
        cases sE q
        refine E4 I7 (R6 (AI (R5 TV) (R7 TV)))
       refine AI (EI (.take 0 (.take 1 (.take 2 (.take 3 (.take 4 (.take 5 (.take 6 (.take 7 (.alt 8 (.alt 9 (.take 10 (.alt 11 .done .done)) .done) .done))))))))) (EI [] (EI [] (AI rfl (AI TV ?_))))) TV
       obtain ⟨q20_8,hq20_8,q⟩ := bE q
       refine OL (AI f180_in (cV (cQ C180 (z27.1,z27.2.1,z27.2.2.1,z27.2.2.2.1,z27.2.2.2.2,(32:Int)) q20_8 [] false C180_holds hq20_8 rfl rfl (AI rfl (AI NH (R2 (AJ (AI TV (AI TV ?_)))))))))
       obtain ⟨q20_9,hq20_9,q⟩ := bE q
       refine OL (AI f120_in (cV (cQ C120 (q20_8.1,q20_8.2.1,q20_8.2.2.1,q20_8.2.2.2.1,q20_8.2.2.2.2) q20_9 [] false C120_holds hq20_9 rfl rfl (AI NH (R2 (AJ (AI TV (gI q (fun q=>?_)))))))))
       refine AI TV (OL (EI ((i64.wrap (j + (1:Int))),(List.set l5_2 (Int.toNat (i64.wrap ((i64.wrap (i * (rd (0:Int) b.1 (1:Int)))) + j))) q20_9)) (AI q (E4 [(0,some 0),(1,some 1),(2,some 2),(3,some 3),(4,some 5),(5,some 6)] (R6 (AI (R4 TV) (R6 TV)))))))
      cases sE q
      refine E4 I6 (R5 (AI (R4 TV) (R6 TV)))
     refine AI (EI ((i64.wrap (i + (1:Int))),z26) (AI q (E4 I6 (R5 (AI (R4 TV) (R6 TV)))))) TV
    cases sE q
    refine E4 [(0,some 2),(1,some 3),(2,some 4),(3,some 5)] (AI rfl (AI (R2 TV) (R4 TV)))
   refine AI (OL (OL ?_)) TV
   cases sE q
   refine AI rfl (E4 [(0,some 2),(1,some 3)] (R2 (AJ (R2 TV))))
  dsimp only [sumF] at q
  refine AI ?_ TV
  cases sE q
  refine AI rfl (E4 [(0,none),(1,none)] (R2 (AJ (R2 TV))))
 dsimp only [sumF] at q
 refine AI ?_ TV
 cases sE q
 refine AI rfl (E4 [(0,none),(1,none)] (R2 (AJ (R2 TV))))
theorem C117_holds : HP C117 117 := hH Tryz.f117 (by kernel_rfl) rfl (fun x y q=>C117_vc x.1 x.2 y q)
theorem f117_in : InP 117 := inP (by kernel_rfl)
def f119_j1 (d : LI) (place_ : LI) : Option (Sum Unit Unit) :=
 bindF (f102 d) fun r2 =>
 bif (!r2) then
 some (Sum.inr ())
 else
 bif ((List.length place_:Int) != (List.length d:Int)) then
 some (Sum.inr ())
 else
 some (Sum.inl ())
def f119_j5 (d : LI) (place_ : LI) (i:Int) : Option (Sum Unit Unit) :=
 guardF (0 ≤ i ∧ i < (List.length place_:Int)) <|
 bif (decide ((rd (0:Int) place_ i) < (0:Int))) then
 some (Sum.inr ())
 else
 guardF (0 ≤ i ∧ i < (List.length place_:Int)) <|
 guardF (0 ≤ i ∧ i < (List.length d:Int)) <|
 bif (decide ((rd (0:Int) place_ i) ≥ (rd (0:Int) d i))) then
 some (Sum.inr ())
 else
 some (Sum.inl ())
def f119_l4 (d : LI) (place_ : LI) (go : (Int×Int) → Option (Sum Unit Int)) (at_:Int) (i:Int) : Option (Sum Unit Int) :=
 bif (decide (i < (List.length d:Int))) then
 bindF (f119_j5 d place_ i) fun z6 =>
 sumF z6 (fun z6a =>
 guardF (0 ≤ i ∧ i < (List.length d:Int)) <|
 guardF (0 ≤ i ∧ i < (List.length place_:Int)) <|
 go ((i64.wrap ((i64.wrap (at_ * (rd (0:Int) d i))) + (rd (0:Int) place_ i))),(i64.wrap (i + (1:Int))))) (fun z6b =>
 some (Sum.inl ()))
 else
 some (Sum.inr at_)
def f119 (d : LI) (place_ : LI) : Option (Int×Bool) :=
 bindF (f119_j1 d place_) fun z1 =>
 sumF z1 (fun z1a =>
 bindF (loopF (fun go x=>f119_l4 d place_ go x.1 x.2) fuelN ((0:Int),(0:Int))) fun z5 =>
 sumF z5 (fun z5a =>
 some ((0:Int),false)) (fun z5b =>
 some (z5b,true))) (fun z1b =>
 some ((0:Int),false))
def C119 : Con where
 X := LI×LI
 Y := Int×Bool
 e := 0
 args x := [.dat T1 x.1,.dat T1 x.2]
 hin x := []
 F x := f119 x.1 x.2
 ret y := [.dat T2 y.1,.dat .bool y.2]
 hout y := []
 nout := 0
theorem C119_vc (d : LI) (place_ : LI) (y : Int×Bool) (q : f119 d place_ = some y) : VC Tryz.f119 C119 (d,place_) y := by
 unfold f119 at q
 refine OL ?_
 obtain ⟨z1,hz1,q⟩ := bE q
 refine OQ ⟨Sum.elim (fun z1a=>[(0,⟨[(0,.dat T1 d),(1,.dat T1 place_)],[],0⟩)]) (fun z1b=>[(1,⟨[(4,D0 0),(5,.dat .bool false)],[],0⟩)]) z1,?_,?_⟩
 ·have q := hz1
  clear hz1
  unfold f119_j1 at q
  refine OL ?_
  obtain ⟨r2,hr2,q⟩ := bE q
  refine OL (AI f102_in (cV (cQ C102 d r2 [] false C102_holds hr2 rfl rfl (AI rfl (K0 (cN q (fun q=>?_) (fun q=>?_)))))))
  ·refine gY (gY (gY (gY (cF (cI q (fun q=>?_) (fun q=>?_))))))
   ·cases sE q
    refine OL (E4 [] (R3 (AI TV TV)))
   cases sE q
   refine E4 [] (R3 (AI TV TV))
  refine gN (gN (gN (gN (cT (cT (OL ?_))))))
  cases sE q
  refine E4 [] (R3 (AI TV TV))
 rcases z1 with z1a | z1b
 ·dsimp only [sumF] at q
  refine AI (OL (OL (OL ?_))) TV
  obtain ⟨z5,hz5,q⟩ := bE q
  refine lI (Int×Int) (Sum Unit Int) (fun x=>⟨[(0,.dat T1 d),(1,.dat T1 place_),(6,.dat T2 x.1),(7,.dat T2 x.2)],[],0⟩) (fun z=>Sum.elim (fun za=>[(1,⟨[(4,D0 0),(5,.dat .bool false)],[],0⟩)]) (fun zb=>[(2,⟨[(6,.dat T2 zb)],[],0⟩)]) z) (loopF (fun go x=>f119_l4 d place_ go x.1 x.2)) fuelN ((0:Int),(0:Int)) z5 (AI hz5 (AI (E4 [] (R5 (AI TV TV))) (AI (fun _ _ h=>lZ h) (AI (fun m=>curI (fun at_=>fun i z q=>?_)) ?_))))
  ·have q : f119_l4 d place_ (loopF (fun go x=>f119_l4 d place_ go x.1 x.2) m) at_ i = some z := q
   unfold f119_l4 at q
   refine OL (OL (cI q (fun q=>?_) (fun q=>?_)))
   ·refine OL ?_
    obtain ⟨z6,hz6,q⟩ := bE q
    refine OQ ⟨Sum.elim (fun z6a=>[(0,⟨[(0,.dat T1 d),(1,.dat T1 place_),(6,.dat T2 at_),(7,.dat T2 i)],[],0⟩)]) (fun z6b=>[(1,⟨[(4,D0 0),(5,.dat .bool false)],[],0⟩)]) z6,?_,?_⟩
    ·have q := hz6
     clear hz6
     unfold f119_j5 at q
     refine OL (EI (.take 0 (.take 1 (.take 2 (.take 3 (.take 4 (.take 5 (.take 6 (.take 7 (.take 8 (.take 9 (.take 10 (.take 11 (.take 12 (.take 13 (.take 14 (.take 15 .done)))))))))))))))) (EI [] (EI [] (AI rfl (gI q (fun q=>?_))))))
     refine cN q (fun q=>?_) (fun q=>?_)
     ·refine gY (gY (gI q (fun q=>?_)))
      refine gY (gY (gY (gY (gI q (fun q=>?_)))))
      refine gY (gY (cF (cI q (fun q=>?_) (fun q=>?_))))
      ·cases sE q
       refine OL (E4 [] (R3 (AI TV TV)))
      cases sE q
      refine E4 [] (R5 (AI TV TV))
     refine gN (gN (gN (gN (gN (gN (gN (gN (cT (cT (OL ?_))))))))))
     cases sE q
     refine E4 [] (R3 (AI TV TV))
    rcases z6 with z6a | z6b
    ·dsimp only [sumF] at q
     refine AI (EI (.take 0 (.take 1 (.take 2 (.take 3 (.take 4 (.take 5 (.take 6 (.take 7 (.take 8 (.take 9 (.take 10 (.take 11 .done)))))))))))) (EI [] (EI [] (AI rfl (gI q (fun q=>?_)))))) TV
     refine gI q (fun q=>?_)
     refine EI ((i64.wrap ((i64.wrap (at_ * (rd (0:Int) d i))) + (rd (0:Int) place_ i))),(i64.wrap (i + (1:Int)))) (AI q (E4 [] (R5 (AI TV TV))))
    dsimp only [sumF] at q
    refine AI ?_ TV
    cases sE q
    refine E4 [] (R3 (AI TV TV))
   cases sE q
   refine E4 [] (R2 (AI TV TV))
  rcases z5 with z5a | z5b
  ·dsimp only [sumF] at q
   refine AI ?_ TV
   cases sE q
   refine AI rfl (E4 [] (R3 (AI TV TV)))
  dsimp only [sumF] at q
  refine AI (OL ?_) TV
  cases sE q
  refine AI rfl (E4 [] (R3 (AI TV TV)))
 dsimp only [sumF] at q
 refine AI ?_ TV
 cases sE q
 refine AI rfl (E4 [] (R3 (AI TV TV)))
theorem C119_holds : HP C119 119 := hH Tryz.f119 (by kernel_rfl) rfl (fun x y q=>C119_vc x.1 x.2 y q)
theorem f119_in : InP 119 := inP (by kernel_rfl)
def f178_j3 (a : LI×LI) (order : LI) : Option Bool :=
 bindF (f62 (a.1,a.2)) fun r6 =>
 bif (!r6) then
 some true
 else
 some ((List.length order:Int) != (List.length a.1:Int))
def f178_j2 (a : LI×LI) (order : LI) : Option (Sum Unit Unit) :=
 bindF (f178_j3 a order) fun z5 =>
 bif z5 then
 some (Sum.inr ())
 else
 some (Sum.inl ())
def f178_j15 (order : LI) (i:Int) : Option Bool :=
 guardF (0 ≤ i ∧ i < (List.length order:Int)) <|
 bif (decide ((rd (0:Int) order i) < (0:Int))) then
 some true
 else
 guardF (0 ≤ i ∧ i < (List.length order:Int)) <|
 some (decide ((rd (0:Int) order i) ≥ (List.length order:Int)))
def f178_j14 (order : LI) (i:Int) : Option (Sum Unit Unit) :=
 bindF (f178_j15 order i) fun z18 =>
 bif z18 then
 some (Sum.inr ())
 else
 some (Sum.inl ())
def f178_l16 (order : LI) (i:Int) (go : Int → Option (Sum Unit Unit)) (k:Int) : Option (Sum Unit Unit) :=
 bif (decide (k < i)) then
 guardF (0 ≤ k ∧ k < (List.length order:Int)) <|
 guardF (0 ≤ i ∧ i < (List.length order:Int)) <|
 bif ((rd (0:Int) order k) == (rd (0:Int) order i)) then
 some (Sum.inl ())
 else
 go (i64.wrap (k + (1:Int)))
 else
 some (Sum.inr ())
def f178_l12 (a : LI×LI) (order : LI) (go : (Int×LI) → Option (Sum Unit LI)) (i:Int) (l2 : LI) : Option (Sum Unit LI) :=
 bif (decide (i < (List.length order:Int))) then
 bindF (f178_j14 order i) fun z17 =>
 sumF z17 (fun z17a =>
 bindF (loopF (fun go x=>f178_l16 order i go x) fuelN (0:Int)) fun z19 =>
 sumF z19 (fun z19a =>
 some (Sum.inl ())) (fun z19b =>
 guardF (0 ≤ i ∧ i < (List.length order:Int)) <|
 guardF (0 ≤ (rd (0:Int) order i) ∧ (rd (0:Int) order i) < (List.length a.1:Int)) <|
 guardF ((List.length l2 + List.length ([(rd (0:Int) a.1 (rd (0:Int) order i))])) * 8 ≤ 140737488355328) <|
 go ((i64.wrap (i + (1:Int))),(l2 ++ ([(rd (0:Int) a.1 (rd (0:Int) order i))]))))) (fun z17b =>
 some (Sum.inl ()))
 else
 some (Sum.inr l2)
def f178_l20 (order : LI) (r25 : Bool×LI) (go : (Int×LI) → Option LI) (k:Int) (l5_2 : LI) : Option LI :=
 bif (decide (k < (List.length r25.2:Int))) then
 guardF (0 ≤ k ∧ k < (List.length order:Int)) <|
 guardF (0 ≤ k ∧ k < (List.length r25.2:Int)) <|
 guardF (0 ≤ (rd (0:Int) order k) ∧ (rd (0:Int) order k) < (List.length l5_2:Int)) <|
 go ((i64.wrap (k + (1:Int))),(List.set l5_2 (Int.toNat (rd (0:Int) order k)) (rd (0:Int) r25.2 k)))
 else
 some l5_2
def f178_l19 (a : LI×LI) (order : LI) (z15b : LI) (go : (Int×LI) → Option LI) (i:Int) (l5 : LI) : Option LI :=
 bif (decide (i < (List.length l5:Int))) then
 bindF (f118 z15b i) fun r25 =>
 guardF (0 ≤ (List.length r25.2:Int) ∧ (List.length r25.2:Int) ≤ (List.length r25.2:Int) ∧ Int.toNat (List.length r25.2:Int) * 8 ≤ 140737488355328) <|
 bindF (loopF (fun go x=>f178_l20 order r25 go x.1 x.2) fuelN ((0:Int),(List.replicate (Int.toNat (List.length r25.2:Int)) (0:Int)))) fun z26 =>
 bindF (f119 a.1 z26) fun q24_10 =>
 guardF (0 ≤ q24_10.1 ∧ q24_10.1 < (List.length a.2:Int)) <|
 guardF (0 ≤ i ∧ i < (List.length l5:Int)) <|
 go ((i64.wrap (i + (1:Int))),(List.set l5 (Int.toNat i) (rd (0:Int) a.2 q24_10.1)))
 else
 some l5
def f178 (a : LI×LI) (order : LI) : Option (Int×LI×LI) :=
 bindF (f178_j2 a order) fun z3 =>
 sumF z3 (fun z3a =>
 bindF (loopF (fun go x=>f178_l12 a order go x.1 x.2) fuelN ((0:Int),[])) fun z15 =>
 sumF z15 (fun z15a =>
 some ((1:Int),[],[])) (fun z15b =>
 bindF (f71 z15b (0:Int)) fun q14_11 =>
 bindF (loopF (fun go x=>f178_l19 a order z15b go x.1 x.2) fuelN ((0:Int),q14_11.2)) fun z24 =>
 some ((0:Int),q14_11.1,z24))) (fun z3b =>
 some ((1:Int),[],[]))
def C178 : Con where
 X := (LI×LI)×LI
 Y := Int×LI×LI
 e := 0
 args x := [.dat T3 x.1,.dat T1 x.2]
 hin x := []
 F x := f178 x.1 x.2
 ret y := [.raw true [(.osl 0),(.osl 1)],.dat T2 y.1]
 hout y := [(0,.arr 3 T2 y.2.1),(1,.arr 40 T2 y.2.2)]
 nout := 2
theorem C178_vc (a : LI×LI) (order : LI) (y : Int×LI×LI) (q : f178 a order = some y) : VC Tryz.f178 C178 (a,order) y := by
 unfold f178 at q
 refine OL ?_
 obtain ⟨z3,hz3,q⟩ := bE q
 refine OQ ⟨Sum.elim (fun z3a=>[(0,⟨[(1,.dat T1 order),(2,P0 0 0),(4,P0 1 0)],[(0,.cells [(.d T1 a.1),(.d T1 a.2)]),(1,.cells [N0,N0])],2⟩)]) (fun z3b=>[(1,⟨[(4,P0 0 0),(5,D0 1)],[(0,.cells [N0,N0])],1⟩)]) z3,?_,?_⟩
 ·have q := hz3
  clear hz3
  unfold f178_j2 at q
  obtain ⟨z5,hz5,q⟩ := bE q
  refine OQ ⟨[(0,⟨[(1,.dat T1 order),(2,P0 0 0),(4,P0 1 0),(27,.dat .bool z5)],[(0,.cells [(.d T1 a.1),(.d T1 a.2)]),(1,.cells [N0,N0])],2⟩)],?_,?_⟩
  ·have q := hz5
   clear hz5
   unfold f178_j3 at q
   obtain ⟨r6,hr6,q⟩ := bE q
   refine OL (AI f62_in (cV (cQ C62 (a.1,a.2) r6 [] false C62_holds hr6 rfl rfl (R2 (K0 (cN q (fun q=>?_) (fun q=>?_)))))))
   ·refine gY (gY (gY (gY (gY (cF ?_)))))
    cases sE q
    refine E4 I2 (R3 (AI (R2 TV) (R2 TV)))
   refine gN (gN (gN (gN (gN (cT ?_)))))
   cases sE q
   refine E4 I2 (R3 (AI (R2 TV) (R2 TV)))
  refine AI (cI q (fun q=>?_) (fun q=>?_)) TV
  ·refine OL (OL ?_)
   cases sE q
   refine E4 [(0,some 1)] (R2 (AJ (AI rfl TV)))
  cases sE q
  refine E4 I2 (R2 (AI (R2 TV) (R2 TV)))
 rcases z3 with z3a | z3b
 ·dsimp only [sumF] at q
  refine AI (OL (OL (OL ?_))) TV
  obtain ⟨z15,hz15,q⟩ := bE q
  refine lI (Int×LI) (Sum Unit LI) (fun x=>⟨[(1,.dat T1 order),(2,P0 0 0),(4,P0 1 0),(6,O0 2),(7,.dat T2 x.1)],[(0,.cells [(.d T1 a.1),(.d T1 a.2)]),(1,.cells [N0,N0]),(2,.arr 3 T2 x.2)],3⟩) (fun z=>Sum.elim (fun za=>[(1,⟨[(4,P0 0 0),(5,D0 1)],[(0,.cells [N0,N0])],1⟩)]) (fun zb=>[(2,⟨[(1,.dat T1 order),(2,P0 0 0),(4,P0 1 0),(6,O0 2)],[(0,.cells [(.d T1 a.1),(.d T1 a.2)]),(1,.cells [N0,N0]),(2,.arr 3 T2 zb)],3⟩)]) z) (loopF (fun go x=>f178_l12 a order go x.1 x.2)) fuelN ((0:Int),[]) z15 (AI hz15 (AI (E4 [(0,some 0),(1,some 1),(2,none)] (R3 (AI (R3 TV) (R3 TV)))) (AI (fun _ _ h=>lZ h) (AI (fun m=>curI (fun i=>fun l2 z q=>?_)) ?_))))
  ·have q : f178_l12 a order (loopF (fun go x=>f178_l12 a order go x.1 x.2) m) i l2 = some z := q
   unfold f178_l12 at q
   refine OL (OL (cI q (fun q=>?_) (fun q=>?_)))
   ·refine OL ?_
    obtain ⟨z17,hz17,q⟩ := bE q
    refine OQ ⟨Sum.elim (fun z17a=>[(0,⟨[(1,.dat T1 order),(2,P0 0 0),(4,P0 1 0),(6,O0 2),(7,.dat T2 i)],[(0,.cells [(.d T1 a.1),(.d T1 a.2)]),(1,.cells [N0,N0]),(2,.arr 3 T2 l2)],3⟩)]) (fun z17b=>[(1,⟨[(4,P0 0 0),(5,D0 1)],[(0,.cells [N0,N0])],1⟩)]) z17,?_,?_⟩
    ·have q := hz17
     clear hz17
     unfold f178_j14 at q
     obtain ⟨z18,hz18,q⟩ := bE q
     refine OQ ⟨[(0,⟨[(1,.dat T1 order),(2,P0 0 0),(4,P0 1 0),(6,O0 2),(7,.dat T2 i),(48,.dat .bool z18)],[(0,.cells [(.d T1 a.1),(.d T1 a.2)]),(1,.cells [N0,N0]),(2,.arr 3 T2 l2)],3⟩)],?_,?_⟩
     ·have q := hz18
      clear hz18
      unfold f178_j15 at q
      refine gI q (fun q=>?_)
      refine cN q (fun q=>?_) (fun q=>?_)
      ·refine gY (gY (gI q (fun q=>?_)))
       refine gY (gY (gY (gY (cF ?_))))
       cases sE q
       refine E4 I3 (R4 (AI (R3 TV) (R3 TV)))
      refine gN (gN (gN (gN (gN (gN (cT ?_))))))
      cases sE q
      refine E4 I3 (R4 (AI (R3 TV) (R3 TV)))
     refine AI (cI q (fun q=>?_) (fun q=>?_)) TV
     ·refine OL (OL ?_)
      cases sE q
      refine E4 [(0,some 1)] (R2 (AJ (AI rfl TV)))
     cases sE q
     refine E4 I3 (R3 (AI (R3 TV) (R3 TV)))
    rcases z17 with z17a | z17b
    ·dsimp only [sumF] at q
     refine AI (OL (OL ?_)) TV
     obtain ⟨z19,hz19,q⟩ := bE q
     refine lI Int (Sum Unit Unit) (fun x=>⟨[(1,.dat T1 order),(2,P0 0 0),(4,P0 1 0),(6,O0 2),(7,.dat T2 i),(8,.dat T2 x)],[(0,.cells [(.d T1 a.1),(.d T1 a.2)]),(1,.cells [N0,N0]),(2,.arr 3 T2 l2)],3⟩) (fun z=>Sum.elim (fun za=>[(1,⟨[(4,P0 0 0),(5,D0 1)],[(0,.cells [N0,N0])],1⟩)]) (fun zb=>[(4,⟨[(1,.dat T1 order),(2,P0 0 0),(4,P0 1 0),(6,O0 2),(7,.dat T2 i)],[(0,.cells [(.d T1 a.1),(.d T1 a.2)]),(1,.cells [N0,N0]),(2,.arr 3 T2 l2)],3⟩)]) z) (loopF (fun go x=>f178_l16 order i go x)) fuelN (0:Int) z19 (AI hz19 (AI (E4 I3 (R4 (AI (R3 TV) (R3 TV)))) (AI (fun _ _ h=>lZ h) (AI (fun m=>fun k z q=>?_) ?_))))
     ·have q : f178_l16 order i (loopF (fun go x=>f178_l16 order i go x) m) k = some z := q
      unfold f178_l16 at q
      refine OL (OL (cI q (fun q=>?_) (fun q=>?_)))
      ·refine OL (OL (EI (.take 0 (.take 1 (.take 2 (.take 3 (.take 4 (.take 5 (.take 6 (.take 7 (.take 8 .done))))))))) (EI [] (EI [] (AI rfl (gI q (fun q=>?_)))))))
       refine gI q (fun q=>?_)
       refine cI q (fun q=>?_) (fun q=>?_)
       ·refine OL (OL ?_)
        cases sE q
        refine E4 [(0,some 1)] (R2 (AJ (AI rfl TV)))
       refine EI (i64.wrap (k + (1:Int))) (AI q (E4 I3 (R4 (AI (R3 TV) (R3 TV)))))
      cases sE q
      refine E4 I3 (R3 (AI (R3 TV) (R3 TV)))
     rcases z19 with z19a | z19b
     ·dsimp only [sumF] at q
      refine AI ?_ TV
      cases sE q
      refine E4 [(0,some 0)] (R2 (AJ (AI rfl TV)))
     dsimp only [sumF] at q
     refine AI (EI (.take 0 (.take 1 (.take 2 (.take 3 (.take 4 (.take 5 (.take 6 (.take 7 (.take 8 (.alt 9 (.alt 10 (.take 11 .done) .done) .done)))))))))) (EI [] (EI [] (AI rfl (gI q (fun q=>?_)))))) TV
     refine gI q (fun q=>?_)
     refine AI TV (OL (AI TV (OL (gI q (fun q=>?_)))))
     refine EI ((i64.wrap (i + (1:Int))),(l2 ++ ([(rd (0:Int) a.1 (rd (0:Int) order i))]))) (AI q (E4 [(0,some 0),(1,some 1),(2,some 4)] (R3 (AI (R3 TV) (R3 TV)))))
    dsimp only [sumF] at q
    refine AI ?_ TV
    cases sE q
    refine E4 [(0,some 0)] (R2 (AJ (AI rfl TV)))
   cases sE q
   refine E4 I3 (R2 (AI (R3 TV) (R3 TV)))
  rcases z15 with z15a | z15b
  ·dsimp only [sumF] at q
   refine AI ?_ TV
   cases sE q
   refine AI rfl (E4 [(0,none),(1,none)] (R2 (AJ (R2 TV))))
  dsimp only [sumF] at q
  refine AI (OL ?_) TV
  obtain ⟨q14_11,hq14_11,q⟩ := bE q
  refine OL (AI f71_in (cV (cQ C71 (z15b,(0:Int)) q14_11 [] true C71_holds hq14_11 rfl rfl (R2 (AI (fun _=>rfl) (R2 (AI TV (AI TV (OL (OL (OL ?_)))))))))))
  obtain ⟨z24,hz24,q⟩ := bE q
  refine lI (Int×LI) LI (fun x=>⟨[(1,.dat T1 order),(2,P0 0 0),(4,P0 1 0),(6,O0 2),(9,P0 3 0),(10,.dat T2 x.1)],[(0,.cells [(.d T1 a.1),(.d T1 a.2)]),(1,.cells [N0,N0]),(2,.arr 3 T2 z15b),(3,.cells [(.osl 4),(.osl 5)]),(4,.arr 3 T2 q14_11.1),(5,.arr 40 T2 x.2)],6⟩) (fun z=>[(6,⟨[(4,P0 0 0),(9,P0 1 0)],[(0,.cells [N0,N0]),(1,.cells [(.osl 2),(.osl 3)]),(2,.arr 3 T2 q14_11.1),(3,.arr 40 T2 z)],4⟩)]) (loopF (fun go x=>f178_l19 a order z15b go x.1 x.2)) fuelN ((0:Int),q14_11.2) z24 (AI hz24 (AI (E4 [(0,some 0),(1,some 1),(2,some 2),(3,some 5),(4,some 3),(5,some 4)] (R3 (AI (R4 TV) (R6 TV)))) (AI (fun _ _ h=>lZ h) (AI (fun m=>curI (fun i=>fun l5 z q=>?_)) ?_))))
  ·have q : f178_l19 a order z15b (loopF (fun go x=>f178_l19 a order z15b go x.1 x.2) m) i l5 = some z := q
   unfold f178_l19 at q
   refine OL (OL (cI q (fun q=>?_) (fun q=>?_)))
   ·refine OL (OL ?_)
    obtain ⟨r25,hr25,q⟩ := bE q
    refine OL (AI f118_in (cV (cQ C118 (z15b,i) r25 [] true C118_holds hr25 rfl rfl (R2 (AI (fun _=>rfl) (R2 (AI TV (AI TV (OL (gI q (fun q=>?_)))))))))))
    refine OL (OL ?_)
    obtain ⟨z26,hz26,q⟩ := bE q
    refine lI (Int×LI) LI (fun x=>⟨[(1,.dat T1 order),(2,P0 0 0),(4,P0 1 0),(6,O0 2),(9,P0 3 0),(10,.dat T2 i),(11,O0 4),(13,O0 5),(14,.dat T2 x.1)],[(0,.cells [(.d T1 a.1),(.d T1 a.2)]),(1,.cells [N0,N0]),(2,.arr 3 T2 z15b),(3,.cells [(.osl 6),(.osl 7)]),(4,.arr 3 T2 r25.2),(5,.arr 3 T2 x.2),(6,.arr 3 T2 q14_11.1),(7,.arr 40 T2 l5)],8⟩) (fun z=>[(8,⟨[(1,.dat T1 order),(2,P0 0 0),(4,P0 1 0),(6,O0 2),(9,P0 3 0),(10,.dat T2 i),(13,O0 4)],[(0,.cells [(.d T1 a.1),(.d T1 a.2)]),(1,.cells [N0,N0]),(2,.arr 3 T2 z15b),(3,.cells [(.osl 5),(.osl 6)]),(4,.arr 3 T2 z),(5,.arr 3 T2 q14_11.1),(6,.arr 40 T2 l5)],7⟩)]) (loopF (fun go x=>f178_l20 order r25 go x.1 x.2)) fuelN ((0:Int),(List.replicate (Int.toNat (List.length r25.2:Int)) (0:Int))) z26 (AI hz26 (AI (E4 [(0,some 0),(1,some 1),(2,some 2),(3,some 3),(4,some 6),(5,some 7),(6,some 4),(7,some 5)] (R4 (AI (R6 TV) (R8 TV)))) (AI (fun _ _ h=>lZ h) (AI (fun m=>curI (fun k=>fun l5_2 z q=>?_)) ?_))))
    ·have q : f178_l20 order r25 (loopF (fun go x=>f178_l20 order r25 go x.1 x.2) m) k l5_2 = some z := q
     unfold f178_l20 at q
     refine OL (OL (cI q (fun q=>?_) (fun q=>?_)))
     ·refine OL (EI (.take 0 (.take 1 (.take 2 (.take 3 (.take 4 (.take 5 (.take 6 (.take 7 (.take 8 (.take 9 (.alt 10 .done .done))))))))))) (EI [] (EI [] (AI rfl (gI q (fun q=>?_))))))
      refine gI q (fun q=>?_)
      refine gI q (fun q=>?_)
      refine AI TV (OL (EI ((i64.wrap (k + (1:Int))),(List.set l5_2 (Int.toNat (rd (0:Int) order k)) (rd (0:Int) r25.2 k))) (AI q (E4 I8 (R4 (AI (R6 TV) (R8 TV)))))))
     cases sE q
     refine E4 [(0,some 0),(1,some 1),(2,some 2),(3,some 3),(4,some 5),(5,some 6),(6,some 7)] (R3 (AI (R5 TV) (R7 TV)))
    refine AI (OL ?_) TV
    obtain ⟨q24_10,hq24_10,q⟩ := bE q
    refine OL (AI f119_in (cV (cQ C119 (a.1,z26) q24_10 [] true C119_holds hq24_10 rfl rfl (R2 (AI (fun _=>rfl) (R2 (AI TV (AI TV (EI (.take 0 (.take 1 (.take 2 (.take 3 (.take 4 (.take 5 (.take 6 (.take 7 (.take 8 (.alt 9 .done .done)))))))))) (EI [] (EI [] (AI rfl (gI q (fun q=>?_))))))))))))))
    refine gI q (fun q=>?_)
    refine AI TV (OL (EI ((i64.wrap (i + (1:Int))),(List.set l5 (Int.toNat i) (rd (0:Int) a.2 q24_10.1))) (AI q (E4 [(0,some 0),(1,some 1),(2,some 2),(3,some 3),(4,some 5),(5,some 6)] (R3 (AI (R4 TV) (R6 TV)))))))
   cases sE q
   refine E4 [(0,some 1),(1,some 3),(2,some 4),(3,some 5)] (AI rfl (AI (R2 TV) (R4 TV)))
  refine AI (OL (OL ?_)) TV
  cases sE q
  refine AI rfl (E4 [(0,some 2),(1,some 3)] (R2 (AJ (R2 TV))))
 dsimp only [sumF] at q
 refine AI ?_ TV
 cases sE q
 refine AI rfl (E4 [(0,none),(1,none)] (R2 (AJ (R2 TV))))
theorem C178_holds : HP C178 178 := hH Tryz.f178 (by kernel_rfl) rfl (fun x y q=>C178_vc x.1 x.2 y q)
theorem f178_in : InP 178 := inP (by kernel_rfl)
def f116 (a : LI×LI) : Option (Int×LI×LI) :=
 bindF (f62 (a.1,a.2)) fun r1 =>
 bif (!r1) then
 some ((1:Int),[],[])
 else
 bif ((List.length a.1:Int) != (2:Int)) then
 some ((4:Int),[],[])
 else
 bindF (f178 (a.1,a.2) ([(1:Int),(0:Int)])) fun r2 =>
 some (r2.1,r2.2.1,r2.2.2)
def C116 : Con where
 X := LI×LI
 Y := Int×LI×LI
 e := 0
 args x := [.dat T3 x]
 hin x := []
 F x := f116 x
 ret y := [.raw true [(.osl 0),(.osl 1)],.dat T2 y.1]
 hout y := [(0,.arr 3 T2 y.2.1),(1,.arr 40 T2 y.2.2)]
 nout := 2
theorem C116_vc (a : LI×LI) (y : Int×LI×LI) (q : f116 a = some y) : VC Tryz.f116 C116 a y := by
 unfold f116 at q
 refine OL (OL (OL ?_))
 obtain ⟨r1,hr1,q⟩ := bE q
 refine OL (AI f62_in (cV (cQ C62 (a.1,a.2) r1 [] false C62_holds hr1 rfl rfl (R2 (K0 (cI q (fun q=>?_) (fun q=>?_)))))))
 ·refine OL (OL ?_)
  cases sE q
  refine AI rfl (E4 [(0,none),(1,none)] (R2 (AJ (R2 TV))))
 refine OL (OL (cI q (fun q=>?_) (fun q=>?_)))
 ·refine OL (OL ?_)
  cases sE q
  refine AI rfl (E4 [(0,none),(1,none)] (R2 (AJ (R2 TV))))
 refine OL (OL ?_)
 obtain ⟨r2,hr2,q⟩ := bE q
 refine OL (AI f178_in (cV (cQ C178 ((a.1,a.2),[(1:Int),(0:Int)]) r2 [] true C178_holds hr2 rfl rfl (R3 (AI (fun _=>rfl) (R2 (AI TV (AI TV (OL ?_)))))))))
 cases sE q
 refine AI rfl (E4 [(0,some 3),(1,some 4)] (R2 (AJ (R2 TV))))
theorem C116_holds : HP C116 116 := hH Tryz.f116 (by kernel_rfl) rfl (fun x y q=>C116_vc x y q)
theorem f116_in : InP 116 := inP (by kernel_rfl)
def f156 (k:Int) : Option Int :=
 bif (decide (k < (-1000000:Int))) then
 some (-1000000:Int)
 else
 bif (decide (k > (1000000:Int))) then
 some (-1000000:Int)
 else
 some k
def C156 : Con where
 X := Int
 Y := Int
 e := 0
 args x := [.dat T2 x]
 hin x := []
 F x := f156 x
 ret y := [.dat T2 y]
 hout y := []
 nout := 0
theorem C156_vc (k:Int) (y:Int) (q : f156 k = some y) : VC Tryz.f156 C156 k y := by
 unfold f156 at q
 refine OL (OL (OL (cN q (fun q=>?_) (fun q=>?_))))
 ·refine gY (cF (cI q (fun q=>?_) (fun q=>?_)))
  ·cases sE q
   refine OL (AI rfl (E4 [] (R2 (AI TV TV))))
  cases sE q
  refine OL (AI rfl (E4 [] (R2 (AI TV TV))))
 refine gN (cT (cT (OL ?_)))
 cases sE q
 refine AI rfl (E4 [] (R2 (AI TV TV)))
theorem C156_holds : HP C156 156 := hH Tryz.f156 (by kernel_rfl) rfl (fun x y q=>C156_vc x y q)
theorem f156_in : InP 156 := inP (by kernel_rfl)
def f155_j3 (a : LI×LI) (side:Int) : Option Bool :=
 bindF (f62 (a.1,a.2)) fun r6 =>
 bif (!r6) then
 some true
 else
 bif (decide (side < (0:Int))) then
 some true
 else
 some (decide (side ≥ (List.length a.1:Int)))
def f155_j2 (a : LI×LI) (side:Int) : Option (Sum Unit Unit) :=
 bindF (f155_j3 a side) fun z5 =>
 bif z5 then
 some (Sum.inr ())
 else
 some (Sum.inl ())
def f155_j16 (side:Int) (r18 : Bool×LI) (k:Int) : Option Unit :=
 guardF (0 ≤ side ∧ side ≤ (List.length r18.2:Int)) <|
 guardF (0 ≤ side ∧ side ≤ (List.length r18.2:Int)) <|
 guardF ((List.length ([] : LI) + List.length (List.take (Int.toNat side) r18.2)) * 8 ≤ 140737488355328) <|
 guardF ((List.length (([] : LI) ++ (List.take (Int.toNat side) r18.2)) + List.length ([k])) * 8 ≤ 140737488355328) <|
 guardF ((List.length ((([] : LI) ++ (List.take (Int.toNat side) r18.2)) ++ ([k])) + List.length (List.drop (Int.toNat side) r18.2)) * 8 ≤ 140737488355328) <|
 some ()
def f155_l15 (a : LI×LI) (side:Int) (r18 : Bool×LI) (go : (Int×Bool×Int×Int×Int×Int) → Option (Bool×Int×Int×Int×Int)) (k:Int) (c4_0 : Bool) (c4_1:Int) (c4_2:Int) (c4_3:Int) (c4_4:Int) : Option (Bool×Int×Int×Int×Int) :=
 guardF (0 ≤ side ∧ side < (List.length a.1:Int)) <|
 bif (decide (k < (rd (0:Int) a.1 side))) then
 bindF (f155_j16 side r18 k) fun z22 =>
 bindF (f119 a.1 (((([] : LI) ++ (List.take (Int.toNat side) r18.2)) ++ ([k])) ++ (List.drop (Int.toNat side) r18.2))) fun q13_12 =>
 guardF (0 ≤ q13_12.1 ∧ q13_12.1 < (List.length a.2:Int)) <|
 bindF (f87 (rd (0:Int) a.2 q13_12.1)) fun q15_6 =>
 bindF (f139 c4_0 c4_1 c4_2 c4_3 c4_4 q15_6.1 q15_6.2 (0:Int) (0:Int) (0:Int)) fun q15_7 =>
 go ((i64.wrap (k + (1:Int))),q15_7.1,q15_7.2.1,q15_7.2.2.1,q15_7.2.2.2.1,q15_7.2.2.2.2)
 else
 some (c4_0,c4_1,c4_2,c4_3,c4_4)
def f155_l12 (a : LI×LI) (side:Int) (go : (Int×LI) → Option LI) (i:Int) (l5 : LI) : Option LI :=
 bif (decide (i < (List.length l5:Int))) then
 bindF (f118 ((([] : LI) ++ (List.take (Int.toNat side) a.1)) ++ (List.drop (Int.toNat (i64.wrap (side + (1:Int)))) a.1)) i) fun r18 =>
 bindF (loopF (fun go x=>f155_l15 a side r18 go x.1 x.2.1 x.2.2.1 x.2.2.2.1 x.2.2.2.2.1 x.2.2.2.2.2) fuelN ((0:Int),false,(0:Int),(0:Int),(0:Int),(0:Int))) fun z21 =>
 bindF (f120 z21.1 z21.2.1 z21.2.2.1 z21.2.2.2.1 z21.2.2.2.2) fun q16_4 =>
 guardF (0 ≤ i ∧ i < (List.length l5:Int)) <|
 go ((i64.wrap (i + (1:Int))),(List.set l5 (Int.toNat i) q16_4))
 else
 some l5
def f155 (a : LI×LI) (side:Int) : Option (Int×LI×LI) :=
 bindF (f155_j2 a side) fun z3 =>
 sumF z3 (fun z3a =>
 guardF (0 ≤ side ∧ side ≤ (List.length a.1:Int)) <|
 guardF (0 ≤ (i64.wrap (side + (1:Int))) ∧ (i64.wrap (side + (1:Int))) ≤ (List.length a.1:Int)) <|
 guardF ((List.length ([] : LI) + List.length (List.take (Int.toNat side) a.1)) * 8 ≤ 140737488355328) <|
 guardF ((List.length (([] : LI) ++ (List.take (Int.toNat side) a.1)) + List.length (List.drop (Int.toNat (i64.wrap (side + (1:Int)))) a.1)) * 8 ≤ 140737488355328) <|
 bindF (f71 ((([] : LI) ++ (List.take (Int.toNat side) a.1)) ++ (List.drop (Int.toNat (i64.wrap (side + (1:Int)))) a.1)) (0:Int)) fun q3_12 =>
 bindF (loopF (fun go x=>f155_l12 a side go x.1 x.2) fuelN ((0:Int),q3_12.2)) fun z17 =>
 some ((0:Int),q3_12.1,z17)) (fun z3b =>
 some ((1:Int),[],[]))
def C155 : Con where
 X := (LI×LI)×Int
 Y := Int×LI×LI
 e := 0
 args x := [.dat T3 x.1,.dat T2 x.2]
 hin x := []
 F x := f155 x.1 x.2
 ret y := [.raw true [(.osl 0),(.osl 1)],.dat T2 y.1]
 hout y := [(0,.arr 3 T2 y.2.1),(1,.arr 40 T2 y.2.2)]
 nout := 2
theorem C155_vc (a : LI×LI) (side:Int) (y : Int×LI×LI) (q : f155 a side = some y) : VC Tryz.f155 C155 (a,side) y := by
 unfold f155 at q
 refine OL ?_
 obtain ⟨z3,hz3,q⟩ := bE q
 refine OQ ⟨Sum.elim (fun z3a=>[(0,⟨[(1,.dat T2 side),(2,P0 0 0),(4,P0 1 0)],[(0,.cells [(.d T1 a.1),(.d T1 a.2)]),(1,.cells [N0,N0])],2⟩)]) (fun z3b=>[(1,⟨[(4,P0 0 0),(5,D0 1)],[(0,.cells [N0,N0])],1⟩)]) z3,?_,?_⟩
 ·have q := hz3
  clear hz3
  unfold f155_j2 at q
  obtain ⟨z5,hz5,q⟩ := bE q
  refine OQ ⟨[(0,⟨[(1,.dat T2 side),(2,P0 0 0),(4,P0 1 0),(29,.dat .bool z5)],[(0,.cells [(.d T1 a.1),(.d T1 a.2)]),(1,.cells [N0,N0])],2⟩)],?_,?_⟩
  ·have q := hz5
   clear hz5
   unfold f155_j3 at q
   obtain ⟨r6,hr6,q⟩ := bE q
   refine OL (AI f62_in (cV (cQ C62 (a.1,a.2) r6 [] false C62_holds hr6 rfl rfl (R2 (K0 (cN q (fun q=>?_) (fun q=>?_)))))))
   ·refine gY (cF (cN q (fun q=>?_) (fun q=>?_)))
    ·refine gY (gY (gY (gY (cF ?_))))
     cases sE q
     refine E4 I2 (R3 (AI (R2 TV) (R2 TV)))
    refine gN (gN (gN (gN (cT ?_))))
    cases sE q
    refine E4 I2 (R3 (AI (R2 TV) (R2 TV)))
   refine gN (cT (gN (gN (gN (gN (gN (cT ?_)))))))
   cases sE q
   refine E4 I2 (R3 (AI (R2 TV) (R2 TV)))
  refine AI (cI q (fun q=>?_) (fun q=>?_)) TV
  ·refine OL (OL ?_)
   cases sE q
   refine E4 [(0,some 1)] (R2 (AJ (AI rfl TV)))
  cases sE q
  refine E4 I2 (R2 (AI (R2 TV) (R2 TV)))
 rcases z3 with z3a | z3b
 ·dsimp only [sumF] at q
  refine AI (OL (EI (.take 1 (.take 2 (.take 3 (.take 4 (.take 6 (.take 7 (.take 8 (.take 9 (.take 10 (.alt 0 (.alt 5 (.alt 11 (.take 12 .done) .done) .done) .done)))))))))) (EI [] (EI [] (AI rfl (gI q (fun q=>?_))))))) TV
  refine gI q (fun q=>?_)
  refine AI TV (OL (AI TV (OL (gI q (fun q=>?_)))))
  refine AI TV (OL (gI q (fun q=>?_)))
  refine OL ?_
  obtain ⟨q3_12,hq3_12,q⟩ := bE q
  refine OL (AI f71_in (cV (cQ C71 (((([] : LI) ++ (List.take (Int.toNat side) a.1)) ++ (List.drop (Int.toNat (i64.wrap (side + (1:Int)))) a.1)),(0:Int)) q3_12 [] true C71_holds hq3_12 rfl rfl (R2 (AI (fun _=>rfl) (R2 (AI TV (AI TV (OL (OL (OL ?_)))))))))))
  obtain ⟨z17,hz17,q⟩ := bE q
  refine lI (Int×LI) LI (fun x=>⟨[(1,.dat T2 side),(2,P0 0 0),(4,P0 1 0),(6,O0 2),(7,P0 3 0),(8,.dat T2 x.1)],[(0,.cells [(.d T1 a.1),(.d T1 a.2)]),(1,.cells [N0,N0]),(2,.arr 3 T2 ((([] : LI) ++ (List.take (Int.toNat side) a.1)) ++ (List.drop (Int.toNat (i64.wrap (side + (1:Int)))) a.1))),(3,.cells [(.osl 4),(.osl 5)]),(4,.arr 3 T2 q3_12.1),(5,.arr 40 T2 x.2)],6⟩) (fun z=>[(2,⟨[(4,P0 0 0),(7,P0 1 0)],[(0,.cells [N0,N0]),(1,.cells [(.osl 2),(.osl 3)]),(2,.arr 3 T2 q3_12.1),(3,.arr 40 T2 z)],4⟩)]) (loopF (fun go x=>f155_l12 a side go x.1 x.2)) fuelN ((0:Int),q3_12.2) z17 (AI hz17 (AI (E4 [(0,some 0),(1,some 1),(2,some 4),(3,some 7),(4,some 5),(5,some 6)] (R3 (AI (R4 TV) (R6 TV)))) (AI (fun _ _ h=>lZ h) (AI (fun m=>curI (fun i=>fun l5 z q=>?_)) ?_))))
  ·have q : f155_l12 a side (loopF (fun go x=>f155_l12 a side go x.1 x.2) m) i l5 = some z := q
   unfold f155_l12 at q
   refine OL (OL (cI q (fun q=>?_) (fun q=>?_)))
   ·refine OL (OL ?_)
    obtain ⟨r18,hr18,q⟩ := bE q
    refine OL (AI f118_in (cV (cQ C118 (((([] : LI) ++ (List.take (Int.toNat side) a.1)) ++ (List.drop (Int.toNat (i64.wrap (side + (1:Int)))) a.1)),i) r18 [] true C118_holds hr18 rfl rfl (R2 (AI (fun _=>rfl) (R2 (AI TV (AI TV (OL (OL (OL (OL ?_))))))))))))
    obtain ⟨z21,hz21,q⟩ := bE q
    refine lI (Int×Bool×Int×Int×Int×Int) (Bool×Int×Int×Int×Int) (fun x=>⟨[(1,.dat T2 side),(2,P0 0 0),(4,P0 1 0),(6,O0 2),(7,P0 3 0),(8,.dat T2 i),(9,.dat T1 r18.2),(11,P0 4 0),(12,.dat T2 x.1)],[(0,.cells [(.d T1 a.1),(.d T1 a.2)]),(1,.cells [N0,N0]),(2,.arr 3 T2 ((([] : LI) ++ (List.take (Int.toNat side) a.1)) ++ (List.drop (Int.toNat (i64.wrap (side + (1:Int)))) a.1))),(3,.cells [(.osl 5),(.osl 6)]),(4,.cells [(.d .bool x.2.1),(.d T4 x.2.2.1),(.d T4 x.2.2.2.1),(.d T4 x.2.2.2.2.1),(.d T4 x.2.2.2.2.2)]),(5,.arr 3 T2 q3_12.1),(6,.arr 40 T2 l5)],7⟩) (fun z=>[(4,⟨[(1,.dat T2 side),(2,P0 0 0),(4,P0 1 0),(6,O0 2),(7,P0 3 0),(8,.dat T2 i),(11,P0 4 0)],[(0,.cells [(.d T1 a.1),(.d T1 a.2)]),(1,.cells [N0,N0]),(2,.arr 3 T2 ((([] : LI) ++ (List.take (Int.toNat side) a.1)) ++ (List.drop (Int.toNat (i64.wrap (side + (1:Int)))) a.1))),(3,.cells [(.osl 5),(.osl 6)]),(4,.cells [(.d .bool z.1),(.d T4 z.2.1),(.d T4 z.2.2.1),(.d T4 z.2.2.2.1),(.d T4 z.2.2.2.2)]),(5,.arr 3 T2 q3_12.1),(6,.arr 40 T2 l5)],7⟩)]) (loopF (fun go x=>f155_l15 a side r18 go x.1 x.2.1 x.2.2.1 x.2.2.2.1 x.2.2.2.2.1 x.2.2.2.2.2)) fuelN ((0:Int),false,(0:Int),(0:Int),(0:Int),(0:Int)) z21 (AI hz21 (AI (E4 [(0,some 0),(1,some 1),(2,some 2),(3,some 3),(4,some 7),(5,some 4),(6,some 5)] (R5 (AI (R5 TV) (R7 TV)))) (AI (fun _ _ h=>lZ h) (AI (fun m=>curI (fun k=>curI (fun c4_0=>curI (fun c4_1=>curI (fun c4_2=>curI (fun c4_3=>fun c4_4 z q=>?_)))))) ?_))))
    ·have q : f155_l15 a side r18 (loopF (fun go x=>f155_l15 a side r18 go x.1 x.2.1 x.2.2.1 x.2.2.2.1 x.2.2.2.2.1 x.2.2.2.2.2) m) k c4_0 c4_1 c4_2 c4_3 c4_4 = some z := q
     unfold f155_l15 at q
     refine OL (OL (gI q (fun q=>?_)))
     refine cI q (fun q=>?_) (fun q=>?_)
     ·refine OL ?_
      obtain ⟨z22,hz22,q⟩ := bE q
      refine OQ ⟨[(0,⟨[(1,.dat T2 side),(2,P0 0 0),(4,P0 1 0),(6,O0 2),(7,P0 3 0),(8,.dat T2 i),(9,.dat T1 r18.2),(11,P0 4 0),(12,.dat T2 k),(13,O0 5)],[(0,.cells [(.d T1 a.1),(.d T1 a.2)]),(1,.cells [N0,N0]),(2,.arr 3 T2 ((([] : LI) ++ (List.take (Int.toNat side) a.1)) ++ (List.drop (Int.toNat (i64.wrap (side + (1:Int)))) a.1))),(3,.cells [(.osl 6),(.osl 7)]),(4,.cells [(.d .bool c4_0),(.d T4 c4_1),(.d T4 c4_2),(.d T4 c4_3),(.d T4 c4_4)]),(5,.arr 3 T2 (((([] : LI) ++ (List.take (Int.toNat side) r18.2)) ++ ([k])) ++ (List.drop (Int.toNat side) r18.2))),(6,.arr 3 T2 q3_12.1),(7,.arr 40 T2 l5)],8⟩)],?_,?_⟩
      ·have q := hz22
       clear hz22
       unfold f155_j16 at q
       obtain ⟨g13_0,q⟩ := gE q
       obtain ⟨g13_1,q⟩ := gE q
       obtain ⟨g13_2,q⟩ := gE q
       obtain ⟨g13_3,q⟩ := gE q
       obtain ⟨g13_4,q⟩ := gE q
       refine EI (.take 1 (.take 2 (.take 3 (.take 5 (.take 8 (.take 9 (.take 10 (.alt 0 (.alt 4 (.alt 6 (.alt 7 (.alt 11 (.take 12 .done) .done) .done) .done) (.alt 6 (.alt 4 (.alt 7 (.alt 11 (.take 12 .done) .done) .done) .done) .done)) (.alt 6 (.alt 0 (.alt 4 (.alt 7 (.alt 11 (.take 12 .done) .done) .done) .done) .done) .done))))))))) (EI [] (EI [] (AI rfl (AI g13_0 (AI g13_0 (AI (AI TV ?_) ?_))))))
       ·refine OL (AI TV (OL (AI TV (OL (AI g13_2 (AI TV (OL (AI g13_3 (AI TV (OL (AI g13_4 ?_)))))))))))
        cases sE q
        refine E4 [(0,some 0),(1,some 1),(2,some 2),(3,some 3),(4,some 4),(5,some 11),(6,some 5),(7,some 6)] (R5 (AI (R6 TV) (R8 TV)))
       refine OL (AI (AI TV ?_) ?_)
       ·refine OL (AI TV (OL (AI g13_2 (AI TV (OL (AI g13_3 (AI TV (OL (AI g13_4 ?_)))))))))
        cases sE q
        refine E4 [(0,some 0),(1,some 1),(2,some 2),(3,some 3),(4,some 4),(5,some 11),(6,some 5),(7,some 6)] (R5 (AI (R6 TV) (R8 TV)))
       refine OL (AI g13_2 (AI TV (OL (AI TV (OL (AI g13_3 (AI TV (OL (AI g13_4 ?_)))))))))
       cases sE q
       refine E4 [(0,some 0),(1,some 1),(2,some 2),(3,some 3),(4,some 4),(5,some 11),(6,some 5),(7,some 6)] (R5 (AI (R6 TV) (R8 TV)))
      refine AI (OL ?_) TV
      obtain ⟨q13_12,hq13_12,q⟩ := bE q
      refine OL (AI f119_in (cV (cQ C119 (a.1,(((([] : LI) ++ (List.take (Int.toNat side) r18.2)) ++ ([k])) ++ (List.drop (Int.toNat side) r18.2))) q13_12 [] true C119_holds hq13_12 rfl rfl (R2 (AI (fun _=>rfl) (R2 (AI TV (AI TV (EI (.take 0 (.take 1 (.take 2 (.take 3 (.take 4 (.take 5 (.alt 6 (.alt 7 (.alt 8 .done .done) .done) .done))))))) (EI [(8,[4])] (EI [] (AI rfl (gI q (fun q=>?_))))))))))))))
      refine AI TV ?_
      obtain ⟨q15_6,hq15_6,q⟩ := bE q
      refine OL (AI f87_in (cV (cQ C87 (rd (0:Int) a.2 q13_12.1) q15_6 [] false C87_holds hq15_6 rfl rfl (AI rfl (K0 (AI TV ?_))))))
      obtain ⟨q15_7,hq15_7,q⟩ := bE q
      refine OL (AI f139_in (cV (cQ C139 (c4_0,c4_1,c4_2,c4_3,c4_4,q15_6.1,q15_6.2,(0:Int),(0:Int),(0:Int)) q15_7 [] false C139_holds hq15_7 rfl rfl (AI NH (R2 (AI (R2 TV) (AI TV (AI TV (OL (EI ((i64.wrap (k + (1:Int))),q15_7.1,q15_7.2.1,q15_7.2.2.1,q15_7.2.2.2.1,q15_7.2.2.2.2) (AI q (E4 [(0,some 0),(1,some 1),(2,some 2),(3,some 3),(4,some 4),(5,some 6),(6,some 7)] (R5 (AI (R5 TV) (R7 TV)))))))))))))))
     cases sE q
     refine E4 I7 (R3 (AI (R5 TV) (R7 TV)))
    refine AI (EI (.take 0 (.take 1 (.take 2 (.take 3 (.alt 4 (.take 5 (.alt 6 .done .done)) .done))))) (EI [] (EI [] (AI rfl (AI TV ?_))))) TV
    obtain ⟨q16_4,hq16_4,q⟩ := bE q
    refine OL (AI f120_in (cV (cQ C120 (z21.1,z21.2.1,z21.2.2.1,z21.2.2.2.1,z21.2.2.2.2) q16_4 [] false C120_holds hq16_4 rfl rfl (AI NH (R2 (AJ (AI TV (gI q (fun q=>?_)))))))))
    refine AI TV (OL (EI ((i64.wrap (i + (1:Int))),(List.set l5 (Int.toNat i) q16_4)) (AI q (E4 [(0,some 0),(1,some 1),(2,some 2),(3,some 3),(4,some 5),(5,some 6)] (R3 (AI (R4 TV) (R6 TV)))))))
   cases sE q
   refine E4 [(0,some 1),(1,some 3),(2,some 4),(3,some 5)] (AI rfl (AI (R2 TV) (R4 TV)))
  refine AI (OL (OL ?_)) TV
  cases sE q
  refine AI rfl (E4 [(0,some 2),(1,some 3)] (R2 (AJ (R2 TV))))
 dsimp only [sumF] at q
 refine AI ?_ TV
 cases sE q
 refine AI rfl (E4 [(0,none),(1,none)] (R2 (AJ (R2 TV))))
theorem C155_holds : HP C155 155 := hH Tryz.f155 (by kernel_rfl) rfl (fun x y q=>C155_vc x.1 x.2 y q)
theorem f155_in : InP 155 := inP (by kernel_rfl)
def f207_l1 (a : LI×LI) (go : (Int×Bool×Int×Int×Int×Int) → Option (Bool×Int×Int×Int×Int)) (i:Int) (c2_0 : Bool) (c2_1:Int) (c2_2:Int) (c2_3:Int) (c2_4:Int) : Option (Bool×Int×Int×Int×Int) :=
 bif (decide (i < (List.length a.2:Int))) then
 guardF (0 ≤ i ∧ i < (List.length a.2:Int)) <|
 bindF (f87 (rd (0:Int) a.2 i)) fun q5_6 =>
 bindF (f139 c2_0 c2_1 c2_2 c2_3 c2_4 q5_6.1 q5_6.2 (0:Int) (0:Int) (0:Int)) fun q5_7 =>
 go ((i64.wrap (i + (1:Int))),q5_7.1,q5_7.2.1,q5_7.2.2.1,q5_7.2.2.2.1,q5_7.2.2.2.2)
 else
 some (c2_0,c2_1,c2_2,c2_3,c2_4)
def f207 (a : LI×LI) : Option (Bool×Int×Int×Int×Int) :=
 bindF (loopF (fun go x=>f207_l1 a go x.1 x.2.1 x.2.2.1 x.2.2.2.1 x.2.2.2.2.1 x.2.2.2.2.2) fuelN ((0:Int),false,(0:Int),(0:Int),(0:Int),(0:Int))) fun z1 =>
 some (z1.1,z1.2.1,z1.2.2.1,z1.2.2.2.1,z1.2.2.2.2)
def C207 : Con where
 X := LI×LI
 Y := Bool×Int×Int×Int×Int
 e := 0
 args x := [.dat T3 x]
 hin x := []
 F x := f207 x
 ret y := [.raw true [(.d .bool y.1),(.d T4 y.2.1),(.d T4 y.2.2.1),(.d T4 y.2.2.2.1),(.d T4 y.2.2.2.2)]]
 hout y := []
 nout := 0
theorem C207_vc (a : LI×LI) (y : Bool×Int×Int×Int×Int) (q : f207 a = some y) : VC Tryz.f207 C207 a y := by
 unfold f207 at q
 refine OL (OL (OL (OL (OL ?_))))
 obtain ⟨z1,hz1,q⟩ := bE q
 refine lI (Int×Bool×Int×Int×Int×Int) (Bool×Int×Int×Int×Int) (fun x=>⟨[(1,P0 0 0),(2,P0 1 0),(3,P0 2 0),(4,.dat T2 x.1)],[(0,.cells [(.d T1 a.1),(.d T1 a.2)]),(1,.cells [(.d .bool false),(.d T4 (0:Int)),(.d T4 (0:Int)),(.d T4 (0:Int)),(.d T4 (0:Int))]),(2,.cells [(.d .bool x.2.1),(.d T4 x.2.2.1),(.d T4 x.2.2.2.1),(.d T4 x.2.2.2.2.1),(.d T4 x.2.2.2.2.2)])],3⟩) (fun z=>[(2,⟨[(2,P0 0 0),(3,P0 1 0)],[(0,.cells [(.d .bool false),(.d T4 (0:Int)),(.d T4 (0:Int)),(.d T4 (0:Int)),(.d T4 (0:Int))]),(1,.cells [(.d .bool z.1),(.d T4 z.2.1),(.d T4 z.2.2.1),(.d T4 z.2.2.2.1),(.d T4 z.2.2.2.2)])],2⟩)]) (loopF (fun go x=>f207_l1 a go x.1 x.2.1 x.2.2.1 x.2.2.2.1 x.2.2.2.2.1 x.2.2.2.2.2)) fuelN ((0:Int),false,(0:Int),(0:Int),(0:Int),(0:Int)) z1 (AI hz1 (AI (E4 I3 (R2 (AI (R3 TV) (R3 TV)))) (AI (fun _ _ h=>lZ h) (AI (fun m=>curI (fun i=>curI (fun c2_0=>curI (fun c2_1=>curI (fun c2_2=>curI (fun c2_3=>fun c2_4 z q=>?_)))))) ?_))))
 ·have q : f207_l1 a (loopF (fun go x=>f207_l1 a go x.1 x.2.1 x.2.2.1 x.2.2.2.1 x.2.2.2.2.1 x.2.2.2.2.2) m) i c2_0 c2_1 c2_2 c2_3 c2_4 = some z := q
  unfold f207_l1 at q
  refine OL (OL (cI q (fun q=>?_) (fun q=>?_)))
  ·refine OL (EI (.take 0 (.take 1 (.take 2 (.take 3 (.take 4 (.take 5 (.alt 6 (.alt 7 (.alt 8 .done .done) .done) .done))))))) (EI [(8,[2])] (EI [] (AI rfl (gI q (fun q=>?_))))))
   refine AI TV ?_
   obtain ⟨q5_6,hq5_6,q⟩ := bE q
   refine OL (AI f87_in (cV (cQ C87 (rd (0:Int) a.2 i) q5_6 [] false C87_holds hq5_6 rfl rfl (AI rfl (K0 (AI TV ?_))))))
   obtain ⟨q5_7,hq5_7,q⟩ := bE q
   refine OL (AI f139_in (cV (cQ C139 (c2_0,c2_1,c2_2,c2_3,c2_4,q5_6.1,q5_6.2,(0:Int),(0:Int),(0:Int)) q5_7 [] false C139_holds hq5_7 rfl rfl (AI NH (R2 (AI (R2 TV) (AI TV (AI TV (OL (EI ((i64.wrap (i + (1:Int))),q5_7.1,q5_7.2.1,q5_7.2.2.1,q5_7.2.2.2.1,q5_7.2.2.2.2) (AI q (E4 I3 (R2 (AI (R3 TV) (R3 TV)))))))))))))))
  cases sE q
  refine E4 [(0,some 1),(1,some 2)] (AI rfl (AI (R2 TV) (R2 TV)))
 refine AI (OL (OL ?_)) TV
 cases sE q
 refine AI rfl (E4 [] (AI rfl (AJ TV)))
theorem C207_holds : HP C207 207 := hH Tryz.f207 (by kernel_rfl) rfl (fun x y q=>C207_vc x y q)
theorem f207_in : InP 207 := inP (by kernel_rfl)
def f158 (a : LI×LI) : Option Int :=
 bindF (f207 (a.1,a.2)) fun r1 =>
 bindF (f120 r1.1 r1.2.1 r1.2.2.1 r1.2.2.2.1 r1.2.2.2.2) fun r2 =>
 some r2
def C158 : Con where
 X := LI×LI
 Y := Int
 e := 0
 args x := [.dat T3 x]
 hin x := []
 F x := f158 x
 ret y := [.dat T2 y]
 hout y := []
 nout := 0
theorem C158_vc (a : LI×LI) (y:Int) (q : f158 a = some y) : VC Tryz.f158 C158 a y := by
 unfold f158 at q
 refine OL (OL ?_)
 obtain ⟨r1,hr1,q⟩ := bE q
 refine OL (AI f207_in (cV (cQ C207 (a.1,a.2) r1 [] false C207_holds hr1 rfl rfl (R2 (K0 ?_)))))
 obtain ⟨r2,hr2,q⟩ := bE q
 refine OL (AI f120_in (cV (cQ C120 (r1.1,r1.2.1,r1.2.2.1,r1.2.2.2.1,r1.2.2.2.2) r2 [] false C120_holds hr2 rfl rfl (AI NH (R2 (AJ (AI TV ?_)))))))
 cases sE q
 refine AI rfl (E4 [] (R2 (AI TV TV)))
theorem C158_holds : HP C158 158 := hH Tryz.f158 (by kernel_rfl) rfl (fun x y q=>C158_vc x y q)
theorem f158_in : InP 158 := inP (by kernel_rfl)
def f157 (v:Int) : Option (LI×LI) :=
 bindF (f71 ([]) v) fun r1 =>
 some (r1.1,r1.2)
def C157 : Con where
 X := Int
 Y := LI×LI
 e := 0
 args x := [.dat T2 x]
 hin x := []
 F x := f157 x
 ret y := [.raw true [(.osl 0),(.osl 1)]]
 hout y := [(0,.arr 3 T2 y.1),(1,.arr 40 T2 y.2)]
 nout := 2
theorem C157_vc (v:Int) (y : LI×LI) (q : f157 v = some y) : VC Tryz.f157 C157 v y := by
 unfold f157 at q
 refine OL (OL ?_)
 obtain ⟨r1,hr1,q⟩ := bE q
 refine OL (AI f71_in (cV (cQ C71 ([],v) r1 [] false C71_holds hr1 rfl rfl (R2 (K0 (OL ?_))))))
 cases sE q
 refine AI rfl (E4 [(0,some 1),(1,some 2)] (AI rfl (AJ (R2 TV))))
theorem C157_holds : HP C157 157 := hH Tryz.f157 (by kernel_rfl) rfl (fun x y q=>C157_vc x y q)
theorem f157_in : InP 157 := inP (by kernel_rfl)
def f121_j4 (r1:Int) (rest:Int) (r9:Int) : Option Bool :=
 bif ((Int.fdiv rest (2 ^ min (Int.toNat (63:Int)) u64.bits)) == (1:Int)) then
 some true
 else
 some (decide ((bitsOf IntKind.u64 (fun p q=>p ||| q) (u64.wrap (rest * 2 ^ min (Int.toNat (1:Int)) u64.bits)) r9) ≥ r1))
def f121_l3 (a_M_0:Int) (a_M_1:Int) (a_M_2:Int) (a_M_3:Int) (r1:Int) (go : (Int×Int×Int×Int×Int×Int) → Option (Int×Int×Int×Int×Int)) (rest:Int) (i:Int) (c2_1:Int) (c2_2:Int) (c2_3:Int) (c2_4:Int) : Option (Int×Int×Int×Int×Int) :=
 bif (decide (i ≥ (0:Int))) then
 bindF (f181 a_M_0 a_M_1 a_M_2 a_M_3 i) fun r9 =>
 bindF (f121_j4 r1 rest r9) fun z10 =>
 bif z10 then
 guardF (0 ≤ (i64.wrap (Int.tdiv i (64:Int))) ∧ (i64.wrap (Int.tdiv i (64:Int))) < (4:Int)) <|
 pickF (i64.wrap (Int.tdiv i (64:Int)))
 [(guardF (0 ≤ (u64.wrap (Int.tmod i (64:Int)))) <|
 go ((u64.wrap ((bitsOf IntKind.u64 (fun p q=>p ||| q) (u64.wrap (rest * 2 ^ min (Int.toNat (1:Int)) u64.bits)) r9) - r1)),(i64.wrap (i - (1:Int))),(bitsOf IntKind.u64 (fun p q=>p ||| q) c2_1 (u64.wrap ((1:Int) * 2 ^ min (Int.toNat (u64.wrap (Int.tmod i (64:Int)))) u64.bits))),c2_2,c2_3,c2_4)),
 (guardF (0 ≤ (u64.wrap (Int.tmod i (64:Int)))) <|
 go ((u64.wrap ((bitsOf IntKind.u64 (fun p q=>p ||| q) (u64.wrap (rest * 2 ^ min (Int.toNat (1:Int)) u64.bits)) r9) - r1)),(i64.wrap (i - (1:Int))),c2_1,(bitsOf IntKind.u64 (fun p q=>p ||| q) c2_2 (u64.wrap ((1:Int) * 2 ^ min (Int.toNat (u64.wrap (Int.tmod i (64:Int)))) u64.bits))),c2_3,c2_4)),
 (guardF (0 ≤ (u64.wrap (Int.tmod i (64:Int)))) <|
 go ((u64.wrap ((bitsOf IntKind.u64 (fun p q=>p ||| q) (u64.wrap (rest * 2 ^ min (Int.toNat (1:Int)) u64.bits)) r9) - r1)),(i64.wrap (i - (1:Int))),c2_1,c2_2,(bitsOf IntKind.u64 (fun p q=>p ||| q) c2_3 (u64.wrap ((1:Int) * 2 ^ min (Int.toNat (u64.wrap (Int.tmod i (64:Int)))) u64.bits))),c2_4)),
 (guardF (0 ≤ (u64.wrap (Int.tmod i (64:Int)))) <|
 go ((u64.wrap ((bitsOf IntKind.u64 (fun p q=>p ||| q) (u64.wrap (rest * 2 ^ min (Int.toNat (1:Int)) u64.bits)) r9) - r1)),(i64.wrap (i - (1:Int))),c2_1,c2_2,c2_3,(bitsOf IntKind.u64 (fun p q=>p ||| q) c2_4 (u64.wrap ((1:Int) * 2 ^ min (Int.toNat (u64.wrap (Int.tmod i (64:Int)))) u64.bits)))))]
 else
 go ((bitsOf IntKind.u64 (fun p q=>p ||| q) (u64.wrap (rest * 2 ^ min (Int.toNat (1:Int)) u64.bits)) r9),(i64.wrap (i - (1:Int))),c2_1,c2_2,c2_3,c2_4)
 else
 some (rest,c2_1,c2_2,c2_3,c2_4)
def f121_j5 (r1:Int) (z8 : Int×Int×Int×Int×Int) : Option Bool :=
 bif (decide (z8.1 > (u64.wrap (r1 - z8.1)))) then
 some true
 else
 bif (z8.1 == (u64.wrap (r1 - z8.1))) then
 some ((bitsOf IntKind.u64 (fun p q=>p &&& q) z8.2.1 (1:Int)) == (1:Int))
 else
 some false
def f121 (a_Neg : Bool) (a_M_0:Int) (a_M_1:Int) (a_M_2:Int) (a_M_3:Int) (by_:Int) : Option (Bool×Int×Int×Int×Int) :=
 bindF (f141 by_) fun r1 =>
 bindF (loopF (fun go x=>f121_l3 a_M_0 a_M_1 a_M_2 a_M_3 r1 go x.1 x.2.1 x.2.2.1 x.2.2.2.1 x.2.2.2.2.1 x.2.2.2.2.2) fuelN ((0:Int),(255:Int),(0:Int),(0:Int),(0:Int),(0:Int))) fun z8 =>
 bindF (f121_j5 r1 z8) fun z12 =>
 bif z12 then
 bindF (f182 z8.2.1 z8.2.2.1 z8.2.2.2.1 z8.2.2.2.2 (1:Int) (0:Int) (0:Int) (0:Int)) fun r13 =>
 some ((!(a_Neg == (decide (by_ < (0:Int))))),r13.1,r13.2.1,r13.2.2.1,r13.2.2.2)
 else
 some ((!(a_Neg == (decide (by_ < (0:Int))))),z8.2.1,z8.2.2.1,z8.2.2.2.1,z8.2.2.2.2)
def C121 : Con where
 X := Bool×Int×Int×Int×Int×Int
 Y := Bool×Int×Int×Int×Int
 e := 0
 args x := [.raw true [(.d .bool x.1),(.d T4 x.2.1),(.d T4 x.2.2.1),(.d T4 x.2.2.2.1),(.d T4 x.2.2.2.2.1)],.dat T2 x.2.2.2.2.2]
 hin x := []
 F x := f121 x.1 x.2.1 x.2.2.1 x.2.2.2.1 x.2.2.2.2.1 x.2.2.2.2.2
 ret y := [.raw true [(.d .bool y.1),(.d T4 y.2.1),(.d T4 y.2.2.1),(.d T4 y.2.2.2.1),(.d T4 y.2.2.2.2)]]
 hout y := []
 nout := 0
theorem C121_vc (a_Neg : Bool) (a_M_0:Int) (a_M_1:Int) (a_M_2:Int) (a_M_3:Int) (by_:Int) (y : Bool×Int×Int×Int×Int) (q : f121 a_Neg a_M_0 a_M_1 a_M_2 a_M_3 by_ = some y) : VC Tryz.f121 C121 (a_Neg,a_M_0,a_M_1,a_M_2,a_M_3,by_) y := by
 unfold f121 at q
 refine OL (OL ?_)
 obtain ⟨r1,hr1,q⟩ := bE q
 refine OL (AI f141_in (cV (cQ C141 by_ r1 [] false C141_holds hr1 rfl rfl (AI rfl (K0 (OL (OL (OL (OL (OL ?_))))))))))
 obtain ⟨z8,hz8,q⟩ := bE q
 refine lI (Int×Int×Int×Int×Int×Int) (Int×Int×Int×Int×Int) (fun x=>⟨[(2,P0 0 0),(4,P0 1 0),(5,.dat T4 r1),(6,P0 2 0),(7,.dat T4 x.1),(8,.dat T2 x.2.1)],[(0,.cells [(.d .bool a_Neg),(.d T4 a_M_0),(.d T4 a_M_1),(.d T4 a_M_2),(.d T4 a_M_3)]),(1,.cells [(.d .bool false),(.d T4 (0:Int)),(.d T4 (0:Int)),(.d T4 (0:Int)),(.d T4 (0:Int))]),(2,.cells [(.d .bool (!(a_Neg == (decide (by_ < (0:Int)))))),(.d T4 x.2.2.1),(.d T4 x.2.2.2.1),(.d T4 x.2.2.2.2.1),(.d T4 x.2.2.2.2.2)])],3⟩) (fun z=>[(2,⟨[(4,P0 0 0),(5,.dat T4 r1),(6,P0 1 0),(7,.dat T4 z.1)],[(0,.cells [(.d .bool false),(.d T4 (0:Int)),(.d T4 (0:Int)),(.d T4 (0:Int)),(.d T4 (0:Int))]),(1,.cells [(.d .bool (!(a_Neg == (decide (by_ < (0:Int)))))),(.d T4 z.2.1),(.d T4 z.2.2.1),(.d T4 z.2.2.2.1),(.d T4 z.2.2.2.2)])],2⟩)]) (loopF (fun go x=>f121_l3 a_M_0 a_M_1 a_M_2 a_M_3 r1 go x.1 x.2.1 x.2.2.1 x.2.2.2.1 x.2.2.2.2.1 x.2.2.2.2.2)) fuelN ((0:Int),(255:Int),(0:Int),(0:Int),(0:Int),(0:Int)) z8 (AI hz8 (AI (E4 I3 (R4 (AI (R3 TV) (R3 TV)))) (AI (fun _ _ h=>lZ h) (AI (fun m=>curI (fun rest=>curI (fun i=>curI (fun c2_1=>curI (fun c2_2=>curI (fun c2_3=>fun c2_4 z q=>?_)))))) ?_))))
 ·have q : f121_l3 a_M_0 a_M_1 a_M_2 a_M_3 r1 (loopF (fun go x=>f121_l3 a_M_0 a_M_1 a_M_2 a_M_3 r1 go x.1 x.2.1 x.2.2.1 x.2.2.2.1 x.2.2.2.2.1 x.2.2.2.2.2) m) rest i c2_1 c2_2 c2_3 c2_4 = some z := q
  unfold f121_l3 at q
  refine OL (OL (cI q (fun q=>?_) (fun q=>?_)))
  ·refine OL (OL (AI (by decide) (OL (AI (by decide) ?_))))
   obtain ⟨r9,hr9,q⟩ := bE q
   refine OL (AI f181_in (cV (cQ C181 (a_M_0,a_M_1,a_M_2,a_M_3,i) r9 [] false C181_holds hr9 rfl rfl (AI rfl (AI NH (R2 (AJ (AI TV ?_))))))))
   obtain ⟨z10,hz10,q⟩ := bE q
   refine OQ ⟨[(0,⟨[(2,P0 0 0),(4,P0 1 0),(5,.dat T4 r1),(6,P0 2 0),(7,.dat T4 (bitsOf IntKind.u64 (fun p q=>p ||| q) (u64.wrap (rest * 2 ^ min (Int.toNat (1:Int)) u64.bits)) r9)),(8,.dat T2 i),(37,.dat .bool z10)],[(0,.cells [(.d .bool a_Neg),(.d T4 a_M_0),(.d T4 a_M_1),(.d T4 a_M_2),(.d T4 a_M_3)]),(1,.cells [(.d .bool false),(.d T4 (0:Int)),(.d T4 (0:Int)),(.d T4 (0:Int)),(.d T4 (0:Int))]),(2,.cells [(.d .bool (!(a_Neg == (decide (by_ < (0:Int)))))),(.d T4 c2_1),(.d T4 c2_2),(.d T4 c2_3),(.d T4 c2_4)])],3⟩)],?_,?_⟩
   ·have q := hz10
    clear hz10
    unfold f121_j4 at q
    refine cN q (fun q=>?_) (fun q=>?_)
    ·refine gY (gY (cF ?_))
     cases sE q
     refine E4 I3 (R5 (AI (R3 TV) (R3 TV)))
    refine gN (gN (cT ?_))
    cases sE q
    refine E4 I3 (R5 (AI (R3 TV) (R3 TV)))
   refine AI (cI q (fun q=>?_) (fun q=>?_)) TV
   ·refine OL (AI (by decide) (AI (by decide) (gI q (fun q=>?_))))
    refine AI (fun hk11=>?_) ?_
    ·have q := pickE q hk11
     dsimp only [nthO] at q
     refine AI (by decide) (gI q (fun q=>?_))
     refine AI (rE hk11 (by decide)) (AI (fun _=>?_) (AI (fun h=>absurd (hk11.symm.trans h) (by decide)) (AI (fun h=>absurd (hk11.symm.trans h) (by decide)) (AI (fun h=>absurd (hk11.symm.trans h) (by decide)) TV))))
     refine OL (EI ((u64.wrap ((bitsOf IntKind.u64 (fun p q=>p ||| q) (u64.wrap (rest * 2 ^ min (Int.toNat (1:Int)) u64.bits)) r9) - r1)),(i64.wrap (i - (1:Int))),(bitsOf IntKind.u64 (fun p q=>p ||| q) c2_1 (u64.wrap ((1:Int) * 2 ^ min (Int.toNat (u64.wrap (Int.tmod i (64:Int)))) u64.bits))),c2_2,c2_3,c2_4) (AI q (E4 I3 (R4 (AI (R3 TV) (R3 TV))))))
    refine AI (fun hk11=>?_) ?_
    ·have q := pickE q hk11
     dsimp only [nthO] at q
     refine AI (by decide) (gI q (fun q=>?_))
     refine AI (rE hk11 (by decide)) (AI (fun h=>absurd (hk11.symm.trans h) (by decide)) ?_)
     refine AI (fun _=>?_) (AI (fun h=>absurd (hk11.symm.trans h) (by decide)) (AI (fun h=>absurd (hk11.symm.trans h) (by decide)) TV))
     refine OL (EI ((u64.wrap ((bitsOf IntKind.u64 (fun p q=>p ||| q) (u64.wrap (rest * 2 ^ min (Int.toNat (1:Int)) u64.bits)) r9) - r1)),(i64.wrap (i - (1:Int))),c2_1,(bitsOf IntKind.u64 (fun p q=>p ||| q) c2_2 (u64.wrap ((1:Int) * 2 ^ min (Int.toNat (u64.wrap (Int.tmod i (64:Int)))) u64.bits))),c2_3,c2_4) (AI q (E4 I3 (R4 (AI (R3 TV) (R3 TV))))))
    refine AI (fun hk11=>?_) ?_
    ·have q := pickE q hk11
     dsimp only [nthO] at q
     refine AI (by decide) (gI q (fun q=>?_))
     refine AI (rE hk11 (by decide)) (AI (fun h=>absurd (hk11.symm.trans h) (by decide)) ?_)
     refine AI (fun h=>absurd (hk11.symm.trans h) (by decide)) ?_
     refine AI (fun _=>?_) (AI (fun h=>absurd (hk11.symm.trans h) (by decide)) TV)
     refine OL (EI ((u64.wrap ((bitsOf IntKind.u64 (fun p q=>p ||| q) (u64.wrap (rest * 2 ^ min (Int.toNat (1:Int)) u64.bits)) r9) - r1)),(i64.wrap (i - (1:Int))),c2_1,c2_2,(bitsOf IntKind.u64 (fun p q=>p ||| q) c2_3 (u64.wrap ((1:Int) * 2 ^ min (Int.toNat (u64.wrap (Int.tmod i (64:Int)))) u64.bits))),c2_4) (AI q (E4 I3 (R4 (AI (R3 TV) (R3 TV))))))
    refine AI (fun hk11=>?_) TV
    have q := pickE q hk11
    dsimp only [nthO] at q
    refine AI (by decide) (gI q (fun q=>?_))
    refine AI (rE hk11 (by decide)) (AI (fun h=>absurd (hk11.symm.trans h) (by decide)) ?_)
    refine AI (fun h=>absurd (hk11.symm.trans h) (by decide)) ?_
    refine AI (fun h=>absurd (hk11.symm.trans h) (by decide)) ?_
    refine AI (fun _=>?_) TV
    refine OL (EI ((u64.wrap ((bitsOf IntKind.u64 (fun p q=>p ||| q) (u64.wrap (rest * 2 ^ min (Int.toNat (1:Int)) u64.bits)) r9) - r1)),(i64.wrap (i - (1:Int))),c2_1,c2_2,c2_3,(bitsOf IntKind.u64 (fun p q=>p ||| q) c2_4 (u64.wrap ((1:Int) * 2 ^ min (Int.toNat (u64.wrap (Int.tmod i (64:Int)))) u64.bits)))) (AI q (E4 I3 (R4 (AI (R3 TV) (R3 TV))))))
   refine EI ((bitsOf IntKind.u64 (fun p q=>p ||| q) (u64.wrap (rest * 2 ^ min (Int.toNat (1:Int)) u64.bits)) r9),(i64.wrap (i - (1:Int))),c2_1,c2_2,c2_3,c2_4) (AI q (E4 I3 (R4 (AI (R3 TV) (R3 TV)))))
  cases sE q
  refine E4 [(0,some 1),(1,some 2)] (R3 (AI (R2 TV) (R2 TV)))
 refine AI (OL ?_) TV
 obtain ⟨z12,hz12,q⟩ := bE q
 refine OQ ⟨[(0,⟨[(4,P0 0 0),(6,P0 1 0),(73,.dat .bool z12)],[(0,.cells [(.d .bool false),(.d T4 (0:Int)),(.d T4 (0:Int)),(.d T4 (0:Int)),(.d T4 (0:Int))]),(1,.cells [(.d .bool (!(a_Neg == (decide (by_ < (0:Int)))))),(.d T4 z8.2.1),(.d T4 z8.2.2.1),(.d T4 z8.2.2.2.1),(.d T4 z8.2.2.2.2)])],2⟩)],?_,?_⟩
 ·have q := hz12
  clear hz12
  unfold f121_j5 at q
  refine cN q (fun q=>?_) (fun q=>?_)
  ·refine gY (gY (gY (gY (gY (cI q (fun q=>?_) (fun q=>?_))))))
   ·refine gX (AI (by decide) (AI (fun _=>?_) (AI (fun h=>absurd h (by decide)) (AI (fun h=>absurd h (by decide)) (AI (fun h=>absurd h (by decide)) TV)))))
    refine gX (gX (gX (gY (cT (cF ?_)))))
    cases sE q
    refine E4 I2 (R2 (AI (R2 TV) (R2 TV)))
   refine gM (gM (gM (gM (gY (cF (cF ?_))))))
   cases sE q
   refine E4 I2 (R2 (AI (R2 TV) (R2 TV)))
  refine gN (gN (gN (gN (gN (gN (cT ?_))))))
  cases sE q
  refine E4 I2 (R2 (AI (R2 TV) (R2 TV)))
 refine AI (cI q (fun q=>?_) (fun q=>?_)) TV
 ·obtain ⟨r13,hr13,q⟩ := bE q
  refine OL (AI f182_in (cV (cQ C182 (z8.2.1,z8.2.2.1,z8.2.2.2.1,z8.2.2.2.2,(1:Int),(0:Int),(0:Int),(0:Int)) r13 [] false C182_holds hr13 rfl rfl (AI NH (R2 (AI (R2 TV) (AI TV (OL (OL (OL ?_))))))))))
  cases sE q
  refine AI rfl (E4 [] (AI rfl (AJ TV)))
 refine OL (OL ?_)
 cases sE q
 refine AI rfl (E4 [] (AI rfl (AJ TV)))
theorem C121_holds : HP C121 121 := hH Tryz.f121 (by kernel_rfl) rfl (fun x y q=>C121_vc x.1 x.2.1 x.2.2.1 x.2.2.2.1 x.2.2.2.2.1 x.2.2.2.2.2 y q)
theorem f121_in : InP 121 := inP (by kernel_rfl)
def f159 (a : LI×LI) : Option Int :=
 bindF (f207 (a.1,a.2)) fun q1_1 =>
 bindF (f121 q1_1.1 q1_1.2.1 q1_1.2.2.1 q1_1.2.2.2.1 q1_1.2.2.2.2 (List.length a.2:Int)) fun q1_5 =>
 bindF (f120 q1_5.1 q1_5.2.1 q1_5.2.2.1 q1_5.2.2.2.1 q1_5.2.2.2.2) fun q1_6 =>
 some q1_6
def C159 : Con where
 X := LI×LI
 Y := Int
 e := 0
 args x := [.dat T3 x]
 hin x := []
 F x := f159 x
 ret y := [.dat T2 y]
 hout y := []
 nout := 0
theorem C159_vc (a : LI×LI) (y:Int) (q : f159 a = some y) : VC Tryz.f159 C159 a y := by
 unfold f159 at q
 refine OL (OL (EI (.take 0 (.take 2 (.take 3 (.take 4 (.alt 1 (.alt 5 (.alt 6 (.take 7 .done) .done) .done) .done))))) (EI [] (EI [] (AI rfl (AI TV ?_))))))
 obtain ⟨q1_1,hq1_1,q⟩ := bE q
 refine OL (AI f207_in (cV (cQ C207 (a.1,a.2) q1_1 [] false C207_holds hq1_1 rfl rfl (R2 (K0 (AI TV ?_))))))
 obtain ⟨q1_5,hq1_5,q⟩ := bE q
 refine OL (AI f121_in (cV (cQ C121 (q1_1.1,q1_1.2.1,q1_1.2.2.1,q1_1.2.2.2.1,q1_1.2.2.2.2,(List.length a.2:Int)) q1_5 [] false C121_holds hq1_5 rfl rfl (AI rfl (AI NH (R2 (AJ (AI TV (AI TV ?_)))))))))
 obtain ⟨q1_6,hq1_6,q⟩ := bE q
 refine OL (AI f120_in (cV (cQ C120 (q1_5.1,q1_5.2.1,q1_5.2.2.1,q1_5.2.2.2.1,q1_5.2.2.2.2) q1_6 [] false C120_holds hq1_6 rfl rfl (AI NH (R2 (AJ (AI TV ?_)))))))
 cases sE q
 refine AI rfl (E4 [] (R2 (AI TV TV)))
theorem C159_holds : HP C159 159 := hH Tryz.f159 (by kernel_rfl) rfl (fun x y q=>C159_vc x y q)
theorem f159_in : InP 159 := inP (by kernel_rfl)
end Go.Proofs
