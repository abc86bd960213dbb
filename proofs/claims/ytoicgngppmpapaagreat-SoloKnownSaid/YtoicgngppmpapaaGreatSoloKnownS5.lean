import Derived.Test.YtoicgngppmpapaaGreatSoloKnownS4
set_option linter.unusedVariables false
set_option maxRecDepth 100000
set_option maxHeartbeats 8000000
namespace Go.Proofs
open Go.AM
open IntKind (i64 u64 i32 u32 i16 u16 i8 u8)
def f253_l1 (a_M_0:Int) (a_M_1:Int) (a_M_2:Int) (a_M_3:Int) (n:Int) (go : (Int×Int×Int×Int×Int) → Option (Int×Int×Int×Int)) (i:Int) (c2_1:Int) (c2_2:Int) (c2_3:Int) (c2_4:Int) : Option (Int×Int×Int×Int) :=
 bif (decide (i ≥ n)) then
 bindF (f181 a_M_0 a_M_1 a_M_2 a_M_3 (i64.wrap (i - n))) fun r6 =>
 bif (r6 == (1:Int)) then
 guardF (0 ≤ (i64.wrap (Int.tdiv i (64:Int))) ∧ (i64.wrap (Int.tdiv i (64:Int))) < (4:Int)) <|
 pickF (i64.wrap (Int.tdiv i (64:Int)))
 [(guardF (0 ≤ (u64.wrap (Int.tmod i (64:Int)))) <|
 go ((i64.wrap (i - (1:Int))),(bitsOf IntKind.u64 (fun p q=>p ||| q) c2_1 (u64.wrap ((1:Int) * 2 ^ min (Int.toNat (u64.wrap (Int.tmod i (64:Int)))) u64.bits))),c2_2,c2_3,c2_4)),
 (guardF (0 ≤ (u64.wrap (Int.tmod i (64:Int)))) <|
 go ((i64.wrap (i - (1:Int))),c2_1,(bitsOf IntKind.u64 (fun p q=>p ||| q) c2_2 (u64.wrap ((1:Int) * 2 ^ min (Int.toNat (u64.wrap (Int.tmod i (64:Int)))) u64.bits))),c2_3,c2_4)),
 (guardF (0 ≤ (u64.wrap (Int.tmod i (64:Int)))) <|
 go ((i64.wrap (i - (1:Int))),c2_1,c2_2,(bitsOf IntKind.u64 (fun p q=>p ||| q) c2_3 (u64.wrap ((1:Int) * 2 ^ min (Int.toNat (u64.wrap (Int.tmod i (64:Int)))) u64.bits))),c2_4)),
 (guardF (0 ≤ (u64.wrap (Int.tmod i (64:Int)))) <|
 go ((i64.wrap (i - (1:Int))),c2_1,c2_2,c2_3,(bitsOf IntKind.u64 (fun p q=>p ||| q) c2_4 (u64.wrap ((1:Int) * 2 ^ min (Int.toNat (u64.wrap (Int.tmod i (64:Int)))) u64.bits)))))]
 else
 go ((i64.wrap (i - (1:Int))),c2_1,c2_2,c2_3,c2_4)
 else
 some (c2_1,c2_2,c2_3,c2_4)
def f253 (a_Neg : Bool) (a_M_0:Int) (a_M_1:Int) (a_M_2:Int) (a_M_3:Int) (n:Int) : Option (Bool×Int×Int×Int×Int) :=
 bindF (loopF (fun go x=>f253_l1 a_M_0 a_M_1 a_M_2 a_M_3 n go x.1 x.2.1 x.2.2.1 x.2.2.2.1 x.2.2.2.2) fuelN ((255:Int),(0:Int),(0:Int),(0:Int),(0:Int))) fun z5 =>
 some (a_Neg,z5.1,z5.2.1,z5.2.2.1,z5.2.2.2)
def C253 : Con where
 X := Bool×Int×Int×Int×Int×Int
 Y := Bool×Int×Int×Int×Int
 e := 0
 args x := [.raw true [(.d .bool x.1),(.d T4 x.2.1),(.d T4 x.2.2.1),(.d T4 x.2.2.2.1),(.d T4 x.2.2.2.2.1)],.dat T2 x.2.2.2.2.2]
 hin x := []
 F x := f253 x.1 x.2.1 x.2.2.1 x.2.2.2.1 x.2.2.2.2.1 x.2.2.2.2.2
 ret y := [.raw true [(.d .bool y.1),(.d T4 y.2.1),(.d T4 y.2.2.1),(.d T4 y.2.2.2.1),(.d T4 y.2.2.2.2)]]
 hout y := []
 nout := 0
theorem C253_vc (a_Neg : Bool) (a_M_0:Int) (a_M_1:Int) (a_M_2:Int) (a_M_3:Int) (n:Int) (y : Bool×Int×Int×Int×Int) (q : f253 a_Neg a_M_0 a_M_1 a_M_2 a_M_3 n = some y) : VC Tryz.f253 C253 (a_Neg,a_M_0,a_M_1,a_M_2,a_M_3,n) y := by
 unfold f253 at q
 refine OL (OL (OL (OL (OL ?_))))
 obtain ⟨z5,hz5,q⟩ := bE q
 refine lI (Int×Int×Int×Int×Int) (Int×Int×Int×Int) (fun x=>⟨[(1,.dat T2 n),(2,P0 0 0),(4,P0 1 0),(5,P0 2 0),(6,.dat T2 x.1)],[(0,.cells [(.d .bool a_Neg),(.d T4 a_M_0),(.d T4 a_M_1),(.d T4 a_M_2),(.d T4 a_M_3)]),(1,.cells [(.d .bool false),(.d T4 (0:Int)),(.d T4 (0:Int)),(.d T4 (0:Int)),(.d T4 (0:Int))]),(2,.cells [(.d .bool a_Neg),(.d T4 x.2.1),(.d T4 x.2.2.1),(.d T4 x.2.2.2.1),(.d T4 x.2.2.2.2)])],3⟩) (fun z=>[(2,⟨[(4,P0 0 0),(5,P0 1 0)],[(0,.cells [(.d .bool false),(.d T4 (0:Int)),(.d T4 (0:Int)),(.d T4 (0:Int)),(.d T4 (0:Int))]),(1,.cells [(.d .bool a_Neg),(.d T4 z.1),(.d T4 z.2.1),(.d T4 z.2.2.1),(.d T4 z.2.2.2)])],2⟩)]) (loopF (fun go x=>f253_l1 a_M_0 a_M_1 a_M_2 a_M_3 n go x.1 x.2.1 x.2.2.1 x.2.2.2.1 x.2.2.2.2)) fuelN ((255:Int),(0:Int),(0:Int),(0:Int),(0:Int)) z5 (AI hz5 (AI (E4 I3 (R3 (AI (R3 TV) (R3 TV)))) (AI (fun _ _ h=>lZ h) (AI (fun m=>curI (fun i=>curI (fun c2_1=>curI (fun c2_2=>curI (fun c2_3=>fun c2_4 z q=>?_))))) ?_))))
 ·have q : f253_l1 a_M_0 a_M_1 a_M_2 a_M_3 n (loopF (fun go x=>f253_l1 a_M_0 a_M_1 a_M_2 a_M_3 n go x.1 x.2.1 x.2.2.1 x.2.2.2.1 x.2.2.2.2) m) i c2_1 c2_2 c2_3 c2_4 = some z := q
  unfold f253_l1 at q
  refine OL (OL (cI q (fun q=>?_) (fun q=>?_)))
  ·refine OL (OL ?_)
   obtain ⟨r6,hr6,q⟩ := bE q
   refine OL (AI f181_in (cV (cQ C181 (a_M_0,a_M_1,a_M_2,a_M_3,(i64.wrap (i - n))) r6 [] false C181_holds hr6 rfl rfl (AI rfl (AI NH (R2 (AJ (AI TV (cI q (fun q=>?_) (fun q=>?_))))))))))
   ·refine AI (by decide) (AI (by decide) (gI q (fun q=>?_)))
    refine AI (fun hk7=>?_) ?_
    ·have q := pickE q hk7
     dsimp only [nthO] at q
     refine AI (by decide) (gI q (fun q=>?_))
     refine AI (rE hk7 (by decide)) (AI (fun _=>?_) (AI (fun h=>absurd (hk7.symm.trans h) (by decide)) (AI (fun h=>absurd (hk7.symm.trans h) (by decide)) (AI (fun h=>absurd (hk7.symm.trans h) (by decide)) TV))))
     refine OL (EI ((i64.wrap (i - (1:Int))),(bitsOf IntKind.u64 (fun p q=>p ||| q) c2_1 (u64.wrap ((1:Int) * 2 ^ min (Int.toNat (u64.wrap (Int.tmod i (64:Int)))) u64.bits))),c2_2,c2_3,c2_4) (AI q (E4 I3 (R3 (AI (R3 TV) (R3 TV))))))
    refine AI (fun hk7=>?_) ?_
    ·have q := pickE q hk7
     dsimp only [nthO] at q
     refine AI (by decide) (gI q (fun q=>?_))
     refine AI (rE hk7 (by decide)) (AI (fun h=>absurd (hk7.symm.trans h) (by decide)) ?_)
     refine AI (fun _=>?_) (AI (fun h=>absurd (hk7.symm.trans h) (by decide)) (AI (fun h=>absurd (hk7.symm.trans h) (by decide)) TV))
     refine OL (EI ((i64.wrap (i - (1:Int))),c2_1,(bitsOf IntKind.u64 (fun p q=>p ||| q) c2_2 (u64.wrap ((1:Int) * 2 ^ min (Int.toNat (u64.wrap (Int.tmod i (64:Int)))) u64.bits))),c2_3,c2_4) (AI q (E4 I3 (R3 (AI (R3 TV) (R3 TV))))))
    refine AI (fun hk7=>?_) ?_
    ·have q := pickE q hk7
     dsimp only [nthO] at q
     refine AI (by decide) (gI q (fun q=>?_))
     refine AI (rE hk7 (by decide)) (AI (fun h=>absurd (hk7.symm.trans h) (by decide)) ?_)
     refine AI (fun h=>absurd (hk7.symm.trans h) (by decide)) ?_
     refine AI (fun _=>?_) (AI (fun h=>absurd (hk7.symm.trans h) (by decide)) TV)
     refine OL (EI ((i64.wrap (i - (1:Int))),c2_1,c2_2,(bitsOf IntKind.u64 (fun p q=>p ||| q) c2_3 (u64.wrap ((1:Int) * 2 ^ min (Int.toNat (u64.wrap (Int.tmod i (64:Int)))) u64.bits))),c2_4) (AI q (E4 I3 (R3 (AI (R3 TV) (R3 TV))))))
    refine AI (fun hk7=>?_) TV
    have q := pickE q hk7
    dsimp only [nthO] at q
    refine AI (by decide) (gI q (fun q=>?_))
    refine AI (rE hk7 (by decide)) (AI (fun h=>absurd (hk7.symm.trans h) (by decide)) ?_)
    refine AI (fun h=>absurd (hk7.symm.trans h) (by decide)) ?_
    refine AI (fun h=>absurd (hk7.symm.trans h) (by decide)) ?_
    refine AI (fun _=>?_) TV
    refine OL (EI ((i64.wrap (i - (1:Int))),c2_1,c2_2,c2_3,(bitsOf IntKind.u64 (fun p q=>p ||| q) c2_4 (u64.wrap ((1:Int) * 2 ^ min (Int.toNat (u64.wrap (Int.tmod i (64:Int)))) u64.bits)))) (AI q (E4 I3 (R3 (AI (R3 TV) (R3 TV))))))
   refine EI ((i64.wrap (i - (1:Int))),c2_1,c2_2,c2_3,c2_4) (AI q (E4 I3 (R3 (AI (R3 TV) (R3 TV)))))
  cases sE q
  refine E4 [(0,some 1),(1,some 2)] (AI rfl (AI (R2 TV) (R2 TV)))
 refine AI (OL (OL ?_)) TV
 cases sE q
 refine AI rfl (E4 [] (AI rfl (AJ TV)))
theorem C253_holds : HP C253 253 := hH Tryz.f253 (by kernel_rfl) rfl (fun x y q=>C253_vc x.1 x.2.1 x.2.2.1 x.2.2.2.1 x.2.2.2.2.1 x.2.2.2.2.2 y q)
theorem f253_in : InP 253 := inP (by kernel_rfl)
def f239 (n:Int) : Option Int :=
 bindF (f87 n) fun r1 =>
 bindF (f253 r1.1 r1.2 (0:Int) (0:Int) (0:Int) (32:Int)) fun r2 =>
 bindF (f120 r2.1 r2.2.1 r2.2.2.1 r2.2.2.2.1 r2.2.2.2.2) fun r3 =>
 some r3
def C239 : Con where
 X := Int
 Y := Int
 e := 0
 args x := [.dat T2 x]
 hin x := []
 F x := f239 x
 ret y := [.dat T2 y]
 hout y := []
 nout := 0
theorem C239_vc (n:Int) (y:Int) (q : f239 n = some y) : VC Tryz.f239 C239 n y := by
 unfold f239 at q
 refine OL (OL ?_)
 obtain ⟨r1,hr1,q⟩ := bE q
 refine OL (AI f87_in (cV (cQ C87 n r1 [] false C87_holds hr1 rfl rfl (AI rfl (K0 ?_)))))
 obtain ⟨r2,hr2,q⟩ := bE q
 refine OL (AI f253_in (cV (cQ C253 (r1.1,r1.2,(0:Int),(0:Int),(0:Int),(32:Int)) r2 [] false C253_holds hr2 rfl rfl (AI rfl (AI NH (R2 (AJ (AI TV ?_))))))))
 obtain ⟨r3,hr3,q⟩ := bE q
 refine OL (AI f120_in (cV (cQ C120 (r2.1,r2.2.1,r2.2.2.1,r2.2.2.2.1,r2.2.2.2.2) r3 [] false C120_holds hr3 rfl rfl (AI NH (R2 (AJ (AI TV ?_)))))))
 cases sE q
 refine AI rfl (E4 [] (R2 (AI TV TV)))
theorem C239_holds : HP C239 239 := hH Tryz.f239 (by kernel_rfl) rfl (fun x y q=>C239_vc x y q)
theorem f239_in : InP 239 := inP (by kernel_rfl)
def f196 (neg : Bool) (none_ : Bool) : Option Int :=
 bif none_ then
 some (0:Int)
 else
 bif neg then
 some (-9223372036854775808:Int)
 else
 some (9223372036854775807:Int)
def C196 : Con where
 X := Bool×Bool
 Y := Int
 e := 0
 args x := [.dat .bool x.1,.dat .bool x.2]
 hin x := []
 F x := f196 x.1 x.2
 ret y := [.dat T2 y]
 hout y := []
 nout := 0
theorem C196_vc (neg : Bool) (none_ : Bool) (y:Int) (q : f196 neg none_ = some y) : VC Tryz.f196 C196 (neg,none_) y := by
 unfold f196 at q
 refine OL (OL (OL (cI q (fun q=>?_) (fun q=>?_))))
 ·cases sE q
  refine OL (AI rfl (E4 [] (R2 (AI TV TV))))
 refine OL (cI q (fun q=>?_) (fun q=>?_))
 ·cases sE q
  refine OL (AI rfl (E4 [] (R2 (AI TV TV))))
 cases sE q
 refine OL (AI rfl (E4 [] (R2 (AI TV TV))))
theorem C196_holds : HP C196 196 := hH Tryz.f196 (by kernel_rfl) rfl (fun x y q=>C196_vc x.1 x.2 y q)
theorem f196_in : InP 196 := inP (by kernel_rfl)
def f238 (a:Int) (b:Int) : Option Int :=
 bif (b == (0:Int)) then
 bindF (f196 (decide (a < (0:Int))) (a == (0:Int))) fun r1 =>
 some r1
 else
 bindF (f87 a) fun r2 =>
 bindF (f253 r2.1 r2.2 (0:Int) (0:Int) (0:Int) (32:Int)) fun r3 =>
 bindF (f121 r3.1 r3.2.1 r3.2.2.1 r3.2.2.2.1 r3.2.2.2.2 b) fun r4 =>
 bindF (f120 r4.1 r4.2.1 r4.2.2.1 r4.2.2.2.1 r4.2.2.2.2) fun r5 =>
 some r5
def C238 : Con where
 X := Int×Int
 Y := Int
 e := 0
 args x := [.dat T2 x.1,.dat T2 x.2]
 hin x := []
 F x := f238 x.1 x.2
 ret y := [.dat T2 y]
 hout y := []
 nout := 0
theorem C238_vc (a:Int) (b:Int) (y:Int) (q : f238 a b = some y) : VC Tryz.f238 C238 (a,b) y := by
 unfold f238 at q
 refine OL (OL (OL (cI q (fun q=>?_) (fun q=>?_))))
 ·refine OL ?_
  obtain ⟨r1,hr1,q⟩ := bE q
  refine OL (AI f196_in (cV (cQ C196 ((decide (a < (0:Int))),(a == (0:Int))) r1 [] false C196_holds hr1 rfl rfl (R2 (K0 ?_)))))
  cases sE q
  refine AI rfl (E4 [] (R2 (AI TV TV)))
 refine OL ?_
 obtain ⟨r2,hr2,q⟩ := bE q
 refine OL (AI f87_in (cV (cQ C87 a r2 [] false C87_holds hr2 rfl rfl (AI rfl (K0 ?_)))))
 obtain ⟨r3,hr3,q⟩ := bE q
 refine OL (AI f253_in (cV (cQ C253 (r2.1,r2.2,(0:Int),(0:Int),(0:Int),(32:Int)) r3 [] false C253_holds hr3 rfl rfl (AI rfl (AI NH (R2 (AJ (AI TV ?_))))))))
 obtain ⟨r4,hr4,q⟩ := bE q
 refine OL (AI f121_in (cV (cQ C121 (r3.1,r3.2.1,r3.2.2.1,r3.2.2.2.1,r3.2.2.2.2,b) r4 [] false C121_holds hr4 rfl rfl (AI rfl (AI NH (R2 (AJ (AI TV ?_))))))))
 obtain ⟨r5,hr5,q⟩ := bE q
 refine OL (AI f120_in (cV (cQ C120 (r4.1,r4.2.1,r4.2.2.1,r4.2.2.2.1,r4.2.2.2.2) r5 [] false C120_holds hr5 rfl rfl (AI NH (R2 (AJ (AI TV ?_)))))))
 cases sE q
 refine AI rfl (E4 [] (R2 (AI TV TV)))
theorem C238_holds : HP C238 238 := hH Tryz.f238 (by kernel_rfl) rfl (fun x y q=>C238_vc x.1 x.2 y q)
theorem f238_in : InP 238 := inP (by kernel_rfl)
def f240 (a:Int) : Option Int :=
 bindF (f130 (0:Int) a) fun r1 =>
 some r1
def C240 : Con where
 X := Int
 Y := Int
 e := 0
 args x := [.dat T2 x]
 hin x := []
 F x := f240 x
 ret y := [.dat T2 y]
 hout y := []
 nout := 0
theorem C240_vc (a:Int) (y:Int) (q : f240 a = some y) : VC Tryz.f240 C240 a y := by
 unfold f240 at q
 refine OL (OL ?_)
 obtain ⟨r1,hr1,q⟩ := bE q
 refine OL (AI f130_in (cV (cQ C130 ((0:Int),a) r1 [] false C130_holds hr1 rfl rfl (R2 (K0 ?_)))))
 cases sE q
 refine AI rfl (E4 [] (R2 (AI TV TV)))
theorem C240_holds : HP C240 240 := hH Tryz.f240 (by kernel_rfl) rfl (fun x y q=>C240_vc x y q)
theorem f240_in : InP 240 := inP (by kernel_rfl)
def f208 (kind:Int) (x_:Int) : Option Int :=
 bif (kind == (1:Int)) then
 bif (decide (x_ < (0:Int))) then
 some (0:Int)
 else
 some x_
 else
 bif (kind == (2:Int)) then
 bif (decide (x_ > (0:Int))) then
 some x_
 else
 bindF (f239 (8:Int)) fun r1 =>
 bindF (f238 x_ r1) fun r2 =>
 some r2
 else
 bif (kind == (3:Int)) then
 bif (decide (x_ > (4294967296:Int))) then
 some (4294967296:Int)
 else
 bif (decide (x_ < (-4294967296:Int))) then
 some (-4294967296:Int)
 else
 some x_
 else
 bif (kind == (4:Int)) then
 bif (decide (x_ < (0:Int))) then
 bindF (f240 x_) fun r3 =>
 some r3
 else
 some x_
 else
 bindF (f239 (2:Int)) fun r4 =>
 bindF (f238 x_ r4) fun r5 =>
 bindF (f129 r5 (2147483648:Int)) fun r6 =>
 bif (decide (r6 < (0:Int))) then
 some (0:Int)
 else
 bif (decide (r6 > (4294967296:Int))) then
 some (4294967296:Int)
 else
 some r6
def C208 : Con where
 X := Int×Int
 Y := Int
 e := 0
 args x := [.dat T2 x.1,.dat T2 x.2]
 hin x := []
 F x := f208 x.1 x.2
 ret y := [.dat T2 y]
 hout y := []
 nout := 0
theorem C208_vc (kind:Int) (x_:Int) (y:Int) (q : f208 kind x_ = some y) : VC Tryz.f208 C208 (kind,x_) y := by
 unfold f208 at q
 refine OL (OL (OL (OL (cI q (fun q=>?_) (fun q=>?_)))))
 ·refine OL (OL (cI q (fun q=>?_) (fun q=>?_)))
  ·cases sE q
   refine OL (AI rfl (E4 [] (R2 (AI TV TV))))
  cases sE q
  refine OL (AI rfl (E4 [] (R2 (AI TV TV))))
 refine OL (cI q (fun q=>?_) (fun q=>?_))
 ·refine OL (OL (cI q (fun q=>?_) (fun q=>?_)))
  ·cases sE q
   refine OL (AI rfl (E4 [] (R2 (AI TV TV))))
  refine OL ?_
  obtain ⟨r1,hr1,q⟩ := bE q
  refine OL (AI f239_in (cV (cQ C239 (8:Int) r1 [] false C239_holds hr1 rfl rfl (AI rfl (K0 ?_)))))
  obtain ⟨r2,hr2,q⟩ := bE q
  refine OL (AI f238_in (cV (cQ C238 (x_,r1) r2 [] false C238_holds hr2 rfl rfl (R2 (K0 ?_)))))
  cases sE q
  refine AI rfl (E4 [] (R2 (AI TV TV)))
 refine OL (cI q (fun q=>?_) (fun q=>?_))
 ·refine OL (OL (cI q (fun q=>?_) (fun q=>?_)))
  ·cases sE q
   refine OL (AI rfl (E4 [] (R2 (AI TV TV))))
  refine OL (OL (cI q (fun q=>?_) (fun q=>?_)))
  ·cases sE q
   refine OL (AI rfl (E4 [] (R2 (AI TV TV))))
  cases sE q
  refine OL (AI rfl (E4 [] (R2 (AI TV TV))))
 refine OL (cI q (fun q=>?_) (fun q=>?_))
 ·refine OL (OL (cI q (fun q=>?_) (fun q=>?_)))
  ·refine OL ?_
   obtain ⟨r3,hr3,q⟩ := bE q
   refine OL (AI f240_in (cV (cQ C240 x_ r3 [] false C240_holds hr3 rfl rfl (AI rfl (K0 ?_)))))
   cases sE q
   refine AI rfl (E4 [] (R2 (AI TV TV)))
  cases sE q
  refine OL (AI rfl (E4 [] (R2 (AI TV TV))))
 refine OL ?_
 obtain ⟨r4,hr4,q⟩ := bE q
 refine OL (AI f239_in (cV (cQ C239 (2:Int) r4 [] false C239_holds hr4 rfl rfl (AI rfl (K0 ?_)))))
 obtain ⟨r5,hr5,q⟩ := bE q
 refine OL (AI f238_in (cV (cQ C238 (x_,r4) r5 [] false C238_holds hr5 rfl rfl (R2 (K0 ?_)))))
 obtain ⟨r6,hr6,q⟩ := bE q
 refine OL (AI f129_in (cV (cQ C129 (r5,(2147483648:Int)) r6 [] false C129_holds hr6 rfl rfl (R2 (K0 (OL (OL (cI q (fun q=>?_) (fun q=>?_)))))))))
 ·cases sE q
  refine OL (AI rfl (E4 [] (R2 (AI TV TV))))
 refine OL (OL (cI q (fun q=>?_) (fun q=>?_)))
 ·cases sE q
  refine OL (AI rfl (E4 [] (R2 (AI TV TV))))
 cases sE q
 refine OL (AI rfl (E4 [] (R2 (AI TV TV))))
theorem C208_holds : HP C208 208 := hH Tryz.f208 (by kernel_rfl) rfl (fun x y q=>C208_vc x.1 x.2 y q)
theorem f208_in : InP 208 := inP (by kernel_rfl)
def f160_j3 (kind:Int) (t : LI×LI) : Option Bool :=
 bif (decide (kind < (1:Int))) then
 some true
 else
 bif (decide (kind > (5:Int))) then
 some true
 else
 bindF (f62 (t.1,t.2)) fun r6 =>
 some (!r6)
def f160_j2 (kind:Int) (t : LI×LI) : Option (Sum Unit Unit) :=
 bindF (f160_j3 kind t) fun z5 =>
 bif z5 then
 some (Sum.inr ())
 else
 some (Sum.inl ())
def f160_l4 (kind:Int) (t : LI×LI) (go : (Int×LI) → Option LI) (i:Int) (l4 : LI) : Option LI :=
 bif (decide (i < (List.length l4:Int))) then
 guardF (0 ≤ i ∧ i < (List.length t.2:Int)) <|
 bindF (f208 kind (rd (0:Int) t.2 i)) fun q7_9 =>
 guardF (0 ≤ i ∧ i < (List.length l4:Int)) <|
 go ((i64.wrap (i + (1:Int))),(List.set l4 (Int.toNat i) q7_9))
 else
 some l4
def f160 (kind:Int) (t : LI×LI) : Option (Int×LI×LI) :=
 bindF (f160_j2 kind t) fun z3 =>
 sumF z3 (fun z3a =>
 bindF (f71 t.1 (0:Int)) fun r7 =>
 bindF (loopF (fun go x=>f160_l4 kind t go x.1 x.2) fuelN ((0:Int),r7.2)) fun z8 =>
 some ((0:Int),r7.1,z8)) (fun z3b =>
 some ((1:Int),[],[]))
def C160 : Con where
 X := Int×(LI×LI)
 Y := Int×LI×LI
 e := 0
 args x := [.dat T2 x.1,.dat T3 x.2]
 hin x := []
 F x := f160 x.1 x.2
 ret y := [.raw true [(.osl 0),(.osl 1)],.dat T2 y.1]
 hout y := [(0,.arr 3 T2 y.2.1),(1,.arr 40 T2 y.2.2)]
 nout := 2
theorem C160_vc (kind:Int) (t : LI×LI) (y : Int×LI×LI) (q : f160 kind t = some y) : VC Tryz.f160 C160 (kind,t) y := by
 unfold f160 at q
 refine OL ?_
 obtain ⟨z3,hz3,q⟩ := bE q
 refine OQ ⟨Sum.elim (fun z3a=>[(0,⟨[(0,.dat T2 kind),(3,P0 0 0),(4,P0 1 0)],[(0,.cells [(.d T1 t.1),(.d T1 t.2)]),(1,.cells [N0,N0])],2⟩)]) (fun z3b=>[(1,⟨[(4,P0 0 0),(5,D0 1)],[(0,.cells [N0,N0])],1⟩)]) z3,?_,?_⟩
 ·have q := hz3
  clear hz3
  unfold f160_j2 at q
  obtain ⟨z5,hz5,q⟩ := bE q
  refine OQ ⟨[(0,⟨[(0,.dat T2 kind),(3,P0 0 0),(4,P0 1 0),(18,.dat .bool z5)],[(0,.cells [(.d T1 t.1),(.d T1 t.2)]),(1,.cells [N0,N0])],2⟩)],?_,?_⟩
  ·have q := hz5
   clear hz5
   unfold f160_j3 at q
   refine cN q (fun q=>?_) (fun q=>?_)
   ·refine gY (cF (cN q (fun q=>?_) (fun q=>?_)))
    ·refine gY ?_
     obtain ⟨r6,hr6,q⟩ := bE q
     refine OL (AI f62_in (cV (cQ C62 (t.1,t.2) r6 [] false C62_holds hr6 rfl rfl (R2 (K0 (gY (cF ?_)))))))
     cases sE q
     refine E4 I2 (R3 (AI (R2 TV) (R2 TV)))
    refine gN (gN (cT ?_))
    cases sE q
    refine E4 I2 (R3 (AI (R2 TV) (R2 TV)))
   refine gN (cT (gN (gN (gN (cT ?_)))))
   cases sE q
   refine E4 I2 (R3 (AI (R2 TV) (R2 TV)))
  refine AI (cI q (fun q=>?_) (fun q=>?_)) TV
  ·refine OL (OL ?_)
   cases sE q
   refine E4 [(0,some 1)] (R2 (AJ (AI rfl TV)))
  cases sE q
  refine E4 I2 (R2 (AI (R2 TV) (R2 TV)))
 rcases z3 with z3a | z3b
 ·dsimp only [sumF] at q
  refine AI (OL ?_) TV
  obtain ⟨r7,hr7,q⟩ := bE q
  refine OL (AI f71_in (cV (cQ C71 (t.1,(0:Int)) r7 [] false C71_holds hr7 rfl rfl (R2 (K0 (OL (OL (OL ?_))))))))
  obtain ⟨z8,hz8,q⟩ := bE q
  refine lI (Int×LI) LI (fun x=>⟨[(0,.dat T2 kind),(3,P0 0 0),(4,P0 1 0),(6,P0 2 0),(7,.dat T2 x.1)],[(0,.cells [(.d T1 t.1),(.d T1 t.2)]),(1,.cells [N0,N0]),(2,.cells [(.osl 3),(.osl 4)]),(3,.arr 3 T2 r7.1),(4,.arr 40 T2 x.2)],5⟩) (fun z=>[(2,⟨[(4,P0 0 0),(6,P0 1 0)],[(0,.cells [N0,N0]),(1,.cells [(.osl 2),(.osl 3)]),(2,.arr 3 T2 r7.1),(3,.arr 40 T2 z)],4⟩)]) (loopF (fun go x=>f160_l4 kind t go x.1 x.2)) fuelN ((0:Int),r7.2) z8 (AI hz8 (AI (E4 [(0,some 0),(1,some 1),(2,some 4),(3,some 2),(4,some 3)] (R3 (AI (R3 TV) (R5 TV)))) (AI (fun _ _ h=>lZ h) (AI (fun m=>curI (fun i=>fun l4 z q=>?_)) ?_))))
  ·have q : f160_l4 kind t (loopF (fun go x=>f160_l4 kind t go x.1 x.2) m) i l4 = some z := q
   unfold f160_l4 at q
   refine OL (OL (cI q (fun q=>?_) (fun q=>?_)))
   ·refine OL (EI (.take 0 (.take 1 (.take 2 (.take 3 (.take 4 (.take 5 (.take 6 (.take 7 (.take 8 (.alt 9 (.take 10 (.alt 11 .done .done)) .done)))))))))) (EI [] (EI [] (AI rfl (gI q (fun q=>?_))))))
    refine AI TV ?_
    obtain ⟨q7_9,hq7_9,q⟩ := bE q
    refine OL (AI f208_in (cV (cQ C208 (kind,(rd (0:Int) t.2 i)) q7_9 [] false C208_holds hq7_9 rfl rfl (R2 (K0 (gI q (fun q=>?_)))))))
    refine AI TV (OL (EI ((i64.wrap (i + (1:Int))),(List.set l4 (Int.toNat i) q7_9)) (AI q (E4 I5 (R3 (AI (R3 TV) (R5 TV)))))))
   cases sE q
   refine E4 [(0,some 1),(1,some 2),(2,some 3),(3,some 4)] (AI rfl (AI (R2 TV) (R4 TV)))
  refine AI (OL (OL ?_)) TV
  cases sE q
  refine AI rfl (E4 [(0,some 2),(1,some 3)] (R2 (AJ (R2 TV))))
 dsimp only [sumF] at q
 refine AI ?_ TV
 cases sE q
 refine AI rfl (E4 [(0,none),(1,none)] (R2 (AJ (R2 TV))))
theorem C160_holds : HP C160 160 := hH Tryz.f160 (by kernel_rfl) rfl (fun x y q=>C160_vc x.1 x.2 y q)
theorem f160_in : InP 160 := inP (by kernel_rfl)
def f161_j3 (a : LI×LI) (k : LI×LI) (step:Int) : Option Bool :=
 bindF (f62 (a.1,a.2)) fun r9 =>
 bif (!r9) then
 some true
 else
 bindF (f62 (k.1,k.2)) fun r10 =>
 bif (!r10) then
 some true
 else
 bif (decide (step < (1:Int))) then
 some true
 else
 some (decide (step > (64:Int)))
def f161_j2 (a : LI×LI) (k : LI×LI) (step:Int) : Option (Sum Unit Unit) :=
 bindF (f161_j3 a k step) fun z8 =>
 bif z8 then
 some (Sum.inr ())
 else
 some (Sum.inl ())
def f161_j6 (a : LI×LI) (k : LI×LI) : Option Bool :=
 bif ((List.length a.1:Int) != (2:Int)) then
 some true
 else
 bif ((List.length k.1:Int) != (3:Int)) then
 some true
 else
 guardF (0 ≤ (0:Int) ∧ (0:Int) < (List.length a.1:Int)) <|
 guardF (0 ≤ (1:Int) ∧ (1:Int) < (List.length k.1:Int)) <|
 bif ((rd (0:Int) a.1 (0:Int)) != (rd (0:Int) k.1 (1:Int))) then
 some true
 else
 guardF (0 ≤ (2:Int) ∧ (2:Int) < (List.length k.1:Int)) <|
 guardF (0 ≤ (1:Int) ∧ (1:Int) < (List.length a.1:Int)) <|
 some (decide ((rd (0:Int) k.1 (2:Int)) > (rd (0:Int) a.1 (1:Int))))
def f161_j5 (a : LI×LI) (k : LI×LI) : Option (Sum Unit Unit) :=
 bindF (f161_j6 a k) fun z13 =>
 bif z13 then
 some (Sum.inr ())
 else
 some (Sum.inl ())
def f161_l46 (a : LI×LI) (k : LI×LI) (step:Int) (i:Int) (j:Int) (x_:Int) (go : (Int×Bool×Int×Int×Int×Int) → Option (Bool×Int×Int×Int×Int)) (y_:Int) (c4_0_2 : Bool) (c4_1_2:Int) (c4_2_2:Int) (c4_3_2:Int) (c4_4_2:Int) : Option (Bool×Int×Int×Int×Int) :=
 bif (decide (y_ < (rd (0:Int) k.1 (2:Int)))) then
 guardF (0 ≤ (i64.wrap ((i64.wrap ((i64.wrap (x_ * (rd (0:Int) a.1 (1:Int)))) + (i64.wrap (j * step)))) + y_)) ∧ (i64.wrap ((i64.wrap ((i64.wrap (x_ * (rd (0:Int) a.1 (1:Int)))) + (i64.wrap (j * step)))) + y_)) < (List.length a.2:Int)) <|
 guardF (0 ≤ (i64.wrap ((i64.wrap ((i64.wrap ((i64.wrap (i * (rd (0:Int) a.1 (0:Int)))) + x_)) * (rd (0:Int) k.1 (2:Int)))) + y_)) ∧ (i64.wrap ((i64.wrap ((i64.wrap ((i64.wrap (i * (rd (0:Int) a.1 (0:Int)))) + x_)) * (rd (0:Int) k.1 (2:Int)))) + y_)) < (List.length k.2:Int)) <|
 bindF (f179 (rd (0:Int) a.2 (i64.wrap ((i64.wrap ((i64.wrap (x_ * (rd (0:Int) a.1 (1:Int)))) + (i64.wrap (j * step)))) + y_))) (rd (0:Int) k.2 (i64.wrap ((i64.wrap ((i64.wrap ((i64.wrap (i * (rd (0:Int) a.1 (0:Int)))) + x_)) * (rd (0:Int) k.1 (2:Int)))) + y_)))) fun q23_27 =>
 bindF (f139 c4_0_2 c4_1_2 c4_2_2 c4_3_2 c4_4_2 q23_27.1 q23_27.2.1 q23_27.2.2.1 q23_27.2.2.2.1 q23_27.2.2.2.2) fun q23_28 =>
 go ((i64.wrap (y_ + (1:Int))),q23_28.1,q23_28.2.1,q23_28.2.2.1,q23_28.2.2.2.1,q23_28.2.2.2.2)
 else
 some (c4_0_2,c4_1_2,c4_2_2,c4_3_2,c4_4_2)
def f161_l45 (a : LI×LI) (k : LI×LI) (step:Int) (i:Int) (j:Int) (go : (Int×Bool×Int×Int×Int×Int) → Option (Bool×Int×Int×Int×Int)) (x_:Int) (c4_0 : Bool) (c4_1:Int) (c4_2:Int) (c4_3:Int) (c4_4:Int) : Option (Bool×Int×Int×Int×Int) :=
 bif (decide (x_ < (rd (0:Int) a.1 (0:Int)))) then
 bindF (loopF (fun go x=>f161_l46 a k step i j x_ go x.1 x.2.1 x.2.2.1 x.2.2.2.1 x.2.2.2.2.1 x.2.2.2.2.2) fuelN ((0:Int),c4_0,c4_1,c4_2,c4_3,c4_4)) fun z54 =>
 go ((i64.wrap (x_ + (1:Int))),z54.1,z54.2.1,z54.2.2.1,z54.2.2.2.1,z54.2.2.2.2)
 else
 some (c4_0,c4_1,c4_2,c4_3,c4_4)
def f161_l42 (a : LI×LI) (k : LI×LI) (step:Int) (i:Int) (go : (Int×LI) → Option LI) (j:Int) (l5_2 : LI) : Option LI :=
 bif (decide (j < (i64.wrap ((i64.wrap (Int.tdiv (i64.wrap ((rd (0:Int) a.1 (1:Int)) - (rd (0:Int) k.1 (2:Int)))) step)) + (1:Int))))) then
 bindF (loopF (fun go x=>f161_l45 a k step i j go x.1 x.2.1 x.2.2.1 x.2.2.2.1 x.2.2.2.2.1 x.2.2.2.2.2) fuelN ((0:Int),false,(0:Int),(0:Int),(0:Int),(0:Int))) fun z53 =>
 bindF (f180 z53.1 z53.2.1 z53.2.2.1 z53.2.2.2.1 z53.2.2.2.2 (32:Int)) fun q24_8 =>
 bindF (f120 q24_8.1 q24_8.2.1 q24_8.2.2.1 q24_8.2.2.2.1 q24_8.2.2.2.2) fun q24_9 =>
 guardF (0 ≤ (i64.wrap ((i64.wrap (i * (i64.wrap ((i64.wrap (Int.tdiv (i64.wrap ((rd (0:Int) a.1 (1:Int)) - (rd (0:Int) k.1 (2:Int)))) step)) + (1:Int))))) + j)) ∧ (i64.wrap ((i64.wrap (i * (i64.wrap ((i64.wrap (Int.tdiv (i64.wrap ((rd (0:Int) a.1 (1:Int)) - (rd (0:Int) k.1 (2:Int)))) step)) + (1:Int))))) + j)) < (List.length l5_2:Int)) <|
 go ((i64.wrap (j + (1:Int))),(List.set l5_2 (Int.toNat (i64.wrap ((i64.wrap (i * (i64.wrap ((i64.wrap (Int.tdiv (i64.wrap ((rd (0:Int) a.1 (1:Int)) - (rd (0:Int) k.1 (2:Int)))) step)) + (1:Int))))) + j))) q24_9))
 else
 some l5_2
def f161_l33 (a : LI×LI) (k : LI×LI) (step:Int) (go : (Int×LI) → Option LI) (i:Int) (l5 : LI) : Option LI :=
 bif (decide (i < (rd (0:Int) k.1 (0:Int)))) then
 bindF (loopF (fun go x=>f161_l42 a k step i go x.1 x.2) fuelN ((0:Int),l5)) fun z50 =>
 go ((i64.wrap (i + (1:Int))),z50)
 else
 some l5
def f161 (a : LI×LI) (k : LI×LI) (step:Int) : Option (Int×LI×LI) :=
 bindF (f161_j2 a k step) fun z5 =>
 sumF z5 (fun z5a =>
 bindF (f161_j5 a k) fun z12 =>
 sumF z12 (fun z12a =>
 guardF (0 ≤ (0:Int) ∧ (0:Int) < (List.length a.1:Int)) <|
 guardF (0 ≤ (1:Int) ∧ (1:Int) < (List.length a.1:Int)) <|
 guardF (0 ≤ (0:Int) ∧ (0:Int) < (List.length k.1:Int)) <|
 guardF (0 ≤ (2:Int) ∧ (2:Int) < (List.length k.1:Int)) <|
 guardF (step ≠ 0) <|
 bindF (f102 ([(rd (0:Int) k.1 (0:Int)),(i64.wrap ((i64.wrap (Int.tdiv (i64.wrap ((rd (0:Int) a.1 (1:Int)) - (rd (0:Int) k.1 (2:Int)))) step)) + (1:Int)))])) fun q5_19 =>
 bif (!q5_19) then
 some ((2:Int),[],[])
 else
 bindF (f71 ([(rd (0:Int) k.1 (0:Int)),(i64.wrap ((i64.wrap (Int.tdiv (i64.wrap ((rd (0:Int) a.1 (1:Int)) - (rd (0:Int) k.1 (2:Int)))) step)) + (1:Int)))]) (0:Int)) fun r14 =>
 bindF (loopF (fun go x=>f161_l33 a k step go x.1 x.2) fuelN ((0:Int),r14.2)) fun z41 =>
 some ((0:Int),r14.1,z41)) (fun z12b =>
 some ((4:Int),[],[]))) (fun z5b =>
 some ((1:Int),[],[]))
def C161 : Con where
 X := (LI×LI)×(LI×LI)×Int
 Y := Int×LI×LI
 e := 0
 args x := [.dat T3 x.1,.dat T3 x.2.1,.dat T2 x.2.2]
 hin x := []
 F x := f161 x.1 x.2.1 x.2.2
 ret y := [.raw true [(.osl 0),(.osl 1)],.dat T2 y.1]
 hout y := [(0,.arr 3 T2 y.2.1),(1,.arr 40 T2 y.2.2)]
 nout := 2
theorem C161_vc (a : LI×LI) (k : LI×LI) (step:Int) (y : Int×LI×LI) (q : f161 a k step = some y) : VC Tryz.f161 C161 (a,k,step) y := by
 unfold f161 at q
 refine OL ?_
 obtain ⟨z5,hz5,q⟩ := bE q
 refine OQ ⟨Sum.elim (fun z5a=>[(0,⟨[(2,.dat T2 step),(3,P0 0 0),(4,P0 1 0),(6,P0 2 0)],[(0,.cells [(.d T1 a.1),(.d T1 a.2)]),(1,.cells [(.d T1 k.1),(.d T1 k.2)]),(2,.cells [N0,N0])],3⟩)]) (fun z5b=>[(1,⟨[(6,P0 0 0),(7,D0 1)],[(0,.cells [N0,N0])],1⟩)]) z5,?_,?_⟩
 ·have q := hz5
  clear hz5
  unfold f161_j2 at q
  obtain ⟨z8,hz8,q⟩ := bE q
  refine OQ ⟨[(0,⟨[(2,.dat T2 step),(3,P0 0 0),(4,P0 1 0),(6,P0 2 0),(34,.dat .bool z8)],[(0,.cells [(.d T1 a.1),(.d T1 a.2)]),(1,.cells [(.d T1 k.1),(.d T1 k.2)]),(2,.cells [N0,N0])],3⟩)],?_,?_⟩
  ·have q := hz8
   clear hz8
   unfold f161_j3 at q
   obtain ⟨r9,hr9,q⟩ := bE q
   refine OL (AI f62_in (cV (cQ C62 (a.1,a.2) r9 [] false C62_holds hr9 rfl rfl (R2 (K0 (cN q (fun q=>?_) (fun q=>?_)))))))
   ·refine gY ?_
    obtain ⟨r10,hr10,q⟩ := bE q
    refine OL (AI f62_in (cV (cQ C62 (k.1,k.2) r10 [] false C62_holds hr10 rfl rfl (R2 (K0 (gY (cF (cN q (fun q=>?_) (fun q=>?_)))))))))
    ·refine gY (cF (cN q (fun q=>?_) (fun q=>?_)))
     ·refine gY (cF ?_)
      cases sE q
      refine E4 I3 (R3 (AI (R3 TV) (R3 TV)))
     refine gN (cT ?_)
     cases sE q
     refine E4 I3 (R3 (AI (R3 TV) (R3 TV)))
    refine gN (cT (gN (gN (cT ?_))))
    cases sE q
    refine E4 I3 (R3 (AI (R3 TV) (R3 TV)))
   refine gN (gN (cT (gN (gN (cT (gN (gN (cT ?_))))))))
   cases sE q
   refine E4 I3 (R3 (AI (R3 TV) (R3 TV)))
  refine AI (cI q (fun q=>?_) (fun q=>?_)) TV
  ·refine OL (OL ?_)
   cases sE q
   refine E4 [(0,some 2)] (R2 (AJ (AI rfl TV)))
  cases sE q
  refine E4 I3 (R2 (AI (R3 TV) (R3 TV)))
 rcases z5 with z5a | z5b
 ·dsimp only [sumF] at q
  refine AI ?_ TV
  obtain ⟨z12,hz12,q⟩ := bE q
  refine OQ ⟨Sum.elim (fun z12a=>[(0,⟨[(2,.dat T2 step),(3,P0 0 0),(4,P0 1 0),(6,P0 2 0)],[(0,.cells [(.d T1 a.1),(.d T1 a.2)]),(1,.cells [(.d T1 k.1),(.d T1 k.2)]),(2,.cells [N0,N0])],3⟩)]) (fun z12b=>[(1,⟨[(6,P0 0 0),(7,D0 4)],[(0,.cells [N0,N0])],1⟩)]) z12,?_,?_⟩
  ·have q := hz12
   clear hz12
   unfold f161_j5 at q
   obtain ⟨z13,hz13,q⟩ := bE q
   refine OQ ⟨[(0,⟨[(2,.dat T2 step),(3,P0 0 0),(4,P0 1 0),(6,P0 2 0),(67,.dat .bool z13)],[(0,.cells [(.d T1 a.1),(.d T1 a.2)]),(1,.cells [(.d T1 k.1),(.d T1 k.2)]),(2,.cells [N0,N0])],3⟩)],?_,?_⟩
   ·have q := hz13
    clear hz13
    unfold f161_j6 at q
    refine EI (.take 0 (.take 1 (.take 2 (.take 3 (.take 4 (.take 5 (.take 6 (.take 7 (.take 8 (.take 9 (.take 10 (.take 11 (.take 12 (.take 13 (.take 14 (.take 15 (.take 16 (.take 17 (.take 18 (.take 19 (.take 20 (.take 21 (.take 22 (.take 23 (.take 24 (.take 25 (.take 26 (.take 27 (.take 28 (.take 29 (.take 30 (.take 31 .done)))))))))))))))))))))))))))))))) (EI [] (EI [] (AI rfl (cN q (fun q=>?_) (fun q=>?_)))))
    ·refine gY (gY (gY (cF (cN q (fun q=>?_) (fun q=>?_)))))
     ·refine gY (gY (gI q (fun q=>?_)))
      refine gY (gY (gY (gY (gI q (fun q=>?_)))))
      refine gY (gY (cF (cN q (fun q=>?_) (fun q=>?_))))
      ·refine gY (gY (gI q (fun q=>?_)))
       refine gY (gY (gY (gY (gI q (fun q=>?_)))))
       refine gY (gY (cF ?_))
       cases sE q
       refine E4 I3 (R3 (AI (R3 TV) (R3 TV)))
      refine gN (gN (gN (gN (gN (gN (gN (gN (cT ?_))))))))
      cases sE q
      refine E4 I3 (R3 (AI (R3 TV) (R3 TV)))
     refine gN (gN (gN (gN (gN (gN (gN (gN (cT (gN (gN (gN (gN (gN (gN (gN (gN (gN (cT ?_))))))))))))))))))
     cases sE q
     refine E4 I3 (R3 (AI (R3 TV) (R3 TV)))
    refine gN (gN (gN (cT (gN (gN (gN (gN (gN (gN (gN (gN (gN (cT (gN (gN (gN (gN (gN (gN (gN (gN (gN (cT ?_)))))))))))))))))))))))
    cases sE q
    refine E4 I3 (R3 (AI (R3 TV) (R3 TV)))
   refine AI (cI q (fun q=>?_) (fun q=>?_)) TV
   ·refine OL (OL ?_)
    cases sE q
    refine E4 [(0,some 2)] (R2 (AJ (AI rfl TV)))
   cases sE q
   refine E4 I3 (R2 (AI (R3 TV) (R3 TV)))
  rcases z12 with z12a | z12b
  ·dsimp only [sumF] at q
   refine AI (OL (EI (.take 0 (.take 1 (.take 2 (.take 3 (.take 4 (.take 5 (.take 6 (.take 7 (.take 8 (.take 9 (.take 10 (.take 11 (.take 12 (.take 13 (.take 14 (.take 15 (.take 16 (.take 17 (.take 18 (.take 19 .done)))))))))))))))))))) (EI [] (EI [] (AI rfl (gI q (fun q=>?_))))))) TV
   refine gI q (fun q=>?_)
   refine gI q (fun q=>?_)
   refine gI q (fun q=>?_)
   refine OL (gI q (fun q=>?_))
   refine OL (OL (OL ?_))
   obtain ⟨q5_19,hq5_19,q⟩ := bE q
   refine OL (AI f102_in (cV (cQ C102 [(rd (0:Int) k.1 (0:Int)),(i64.wrap ((i64.wrap (Int.tdiv (i64.wrap ((rd (0:Int) a.1 (1:Int)) - (rd (0:Int) k.1 (2:Int)))) step)) + (1:Int)))] q5_19 [] true C102_holds hq5_19 rfl rfl (AI rfl (AI (fun _=>rfl) (R2 (AI TV (AI TV (cI q (fun q=>?_) (fun q=>?_))))))))))
   ·refine OL (OL ?_)
    cases sE q
    refine AI rfl (E4 [(0,none),(1,none)] (R2 (AJ (R2 TV))))
   refine OL (OL ?_)
   obtain ⟨r14,hr14,q⟩ := bE q
   refine OL (AI f71_in (cV (cQ C71 ([(rd (0:Int) k.1 (0:Int)),(i64.wrap ((i64.wrap (Int.tdiv (i64.wrap ((rd (0:Int) a.1 (1:Int)) - (rd (0:Int) k.1 (2:Int)))) step)) + (1:Int)))],(0:Int)) r14 [] true C71_holds hr14 rfl rfl (R2 (AI (fun _=>rfl) (R2 (AI TV (AI TV (OL (OL (OL ?_)))))))))))
   obtain ⟨z41,hz41,q⟩ := bE q
   refine lI (Int×LI) LI (fun x=>⟨[(2,.dat T2 step),(3,P0 0 0),(4,P0 1 0),(6,P0 2 0),(8,.dat T2 (rd (0:Int) a.1 (0:Int))),(9,.dat T2 (rd (0:Int) a.1 (1:Int))),(10,.dat T2 (rd (0:Int) k.1 (0:Int))),(11,.dat T2 (rd (0:Int) k.1 (2:Int))),(12,.dat T2 (i64.wrap ((i64.wrap (Int.tdiv (i64.wrap ((rd (0:Int) a.1 (1:Int)) - (rd (0:Int) k.1 (2:Int)))) step)) + (1:Int)))),(13,P0 3 0),(14,.dat T2 x.1)],[(0,.cells [(.d T1 a.1),(.d T1 a.2)]),(1,.cells [(.d T1 k.1),(.d T1 k.2)]),(2,.cells [N0,N0]),(3,.cells [(.osl 4),(.osl 5)]),(4,.arr 3 T2 r14.1),(5,.arr 40 T2 x.2)],6⟩) (fun z=>[(2,⟨[(6,P0 0 0),(13,P0 1 0)],[(0,.cells [N0,N0]),(1,.cells [(.osl 2),(.osl 3)]),(2,.arr 3 T2 r14.1),(3,.arr 40 T2 z)],4⟩)]) (loopF (fun go x=>f161_l33 a k step go x.1 x.2)) fuelN ((0:Int),r14.2) z41 (AI hz41 (AI (E4 [(0,some 0),(1,some 1),(2,some 2),(3,some 7),(4,some 5),(5,some 6)] (R8 (AI (R4 TV) (R6 TV)))) (AI (fun _ _ h=>lZ h) (AI (fun m=>curI (fun i=>fun l5 z q=>?_)) ?_))))
   ·have q : f161_l33 a k step (loopF (fun go x=>f161_l33 a k step go x.1 x.2) m) i l5 = some z := q
    unfold f161_l33 at q
    refine OL (OL (cI q (fun q=>?_) (fun q=>?_)))
    ·refine OL (OL ?_)
     obtain ⟨z50,hz50,q⟩ := bE q
     refine lI (Int×LI) LI (fun x=>⟨[(2,.dat T2 step),(3,P0 0 0),(4,P0 1 0),(6,P0 2 0),(8,.dat T2 (rd (0:Int) a.1 (0:Int))),(9,.dat T2 (rd (0:Int) a.1 (1:Int))),(10,.dat T2 (rd (0:Int) k.1 (0:Int))),(11,.dat T2 (rd (0:Int) k.1 (2:Int))),(12,.dat T2 (i64.wrap ((i64.wrap (Int.tdiv (i64.wrap ((rd (0:Int) a.1 (1:Int)) - (rd (0:Int) k.1 (2:Int)))) step)) + (1:Int)))),(13,P0 3 0),(14,.dat T2 i),(15,.dat T2 x.1)],[(0,.cells [(.d T1 a.1),(.d T1 a.2)]),(1,.cells [(.d T1 k.1),(.d T1 k.2)]),(2,.cells [N0,N0]),(3,.cells [(.osl 4),(.osl 5)]),(4,.arr 3 T2 r14.1),(5,.arr 40 T2 x.2)],6⟩) (fun z=>[(4,⟨[(2,.dat T2 step),(3,P0 0 0),(4,P0 1 0),(6,P0 2 0),(8,.dat T2 (rd (0:Int) a.1 (0:Int))),(9,.dat T2 (rd (0:Int) a.1 (1:Int))),(10,.dat T2 (rd (0:Int) k.1 (0:Int))),(11,.dat T2 (rd (0:Int) k.1 (2:Int))),(12,.dat T2 (i64.wrap ((i64.wrap (Int.tdiv (i64.wrap ((rd (0:Int) a.1 (1:Int)) - (rd (0:Int) k.1 (2:Int)))) step)) + (1:Int)))),(13,P0 3 0),(14,.dat T2 i)],[(0,.cells [(.d T1 a.1),(.d T1 a.2)]),(1,.cells [(.d T1 k.1),(.d T1 k.2)]),(2,.cells [N0,N0]),(3,.cells [(.osl 4),(.osl 5)]),(4,.arr 3 T2 r14.1),(5,.arr 40 T2 z)],6⟩)]) (loopF (fun go x=>f161_l42 a k step i go x.1 x.2)) fuelN ((0:Int),l5) z50 (AI hz50 (AI (E4 I6 (R9 (AI (R4 TV) (R6 TV)))) (AI (fun _ _ h=>lZ h) (AI (fun m=>curI (fun j=>fun l5_2 z q=>?_)) ?_))))
     ·have q : f161_l42 a k step i (loopF (fun go x=>f161_l42 a k step i go x.1 x.2) m) j l5_2 = some z := q
      unfold f161_l42 at q
      refine OL (OL (cI q (fun q=>?_) (fun q=>?_)))
      ·refine OL (OL (OL (OL (OL ?_))))
       obtain ⟨z53,hz53,q⟩ := bE q
       refine lI (Int×Bool×Int×Int×Int×Int) (Bool×Int×Int×Int×Int) (fun x=>⟨[(2,.dat T2 step),(3,P0 0 0),(4,P0 1 0),(6,P0 2 0),(8,.dat T2 (rd (0:Int) a.1 (0:Int))),(9,.dat T2 (rd (0:Int) a.1 (1:Int))),(10,.dat T2 (rd (0:Int) k.1 (0:Int))),(11,.dat T2 (rd (0:Int) k.1 (2:Int))),(12,.dat T2 (i64.wrap ((i64.wrap (Int.tdiv (i64.wrap ((rd (0:Int) a.1 (1:Int)) - (rd (0:Int) k.1 (2:Int)))) step)) + (1:Int)))),(13,P0 3 0),(14,.dat T2 i),(15,.dat T2 j),(16,P0 4 0),(17,.dat T2 x.1)],[(0,.cells [(.d T1 a.1),(.d T1 a.2)]),(1,.cells [(.d T1 k.1),(.d T1 k.2)]),(2,.cells [N0,N0]),(3,.cells [(.osl 5),(.osl 6)]),(4,.cells [(.d .bool x.2.1),(.d T4 x.2.2.1),(.d T4 x.2.2.2.1),(.d T4 x.2.2.2.2.1),(.d T4 x.2.2.2.2.2)]),(5,.arr 3 T2 r14.1),(6,.arr 40 T2 l5_2)],7⟩) (fun z=>[(6,⟨[(2,.dat T2 step),(3,P0 0 0),(4,P0 1 0),(6,P0 2 0),(8,.dat T2 (rd (0:Int) a.1 (0:Int))),(9,.dat T2 (rd (0:Int) a.1 (1:Int))),(10,.dat T2 (rd (0:Int) k.1 (0:Int))),(11,.dat T2 (rd (0:Int) k.1 (2:Int))),(12,.dat T2 (i64.wrap ((i64.wrap (Int.tdiv (i64.wrap ((rd (0:Int) a.1 (1:Int)) - (rd (0:Int) k.1 (2:Int)))) step)) + (1:Int)))),(13,P0 3 0),(14,.dat T2 i),(15,.dat T2 j),(16,P0 4 0)],[(0,.cells [(.d T1 a.1),(.d T1 a.2)]),(1,.cells [(.d T1 k.1),(.d T1 k.2)]),(2,.cells [N0,N0]),(3,.cells [(.osl 5),(.osl 6)]),(4,.cells [(.d .bool z.1),(.d T4 z.2.1),(.d T4 z.2.2.1),(.d T4 z.2.2.2.1),(.d T4 z.2.2.2.2)]),(5,.arr 3 T2 r14.1),(6,.arr 40 T2 l5_2)],7⟩)]) (loopF (fun go x=>f161_l45 a k step i j go x.1 x.2.1 x.2.2.1 x.2.2.2.1 x.2.2.2.2.1 x.2.2.2.2.2)) fuelN ((0:Int),false,(0:Int),(0:Int),(0:Int),(0:Int)) z53 (AI hz53 (AI (E4 [(0,some 0),(1,some 1),(2,some 2),(3,some 3),(4,some 6),(5,some 4),(6,some 5)] (R10 (AI (R5 TV) (R7 TV)))) (AI (fun _ _ h=>lZ h) (AI (fun m=>curI (fun x_=>curI (fun c4_0=>curI (fun c4_1=>curI (fun c4_2=>curI (fun c4_3=>fun c4_4 z q=>?_)))))) ?_))))
       ·have q : f161_l45 a k step i j (loopF (fun go x=>f161_l45 a k step i j go x.1 x.2.1 x.2.2.1 x.2.2.2.1 x.2.2.2.2.1 x.2.2.2.2.2) m) x_ c4_0 c4_1 c4_2 c4_3 c4_4 = some z := q
        unfold f161_l45 at q
        refine OL (OL (cI q (fun q=>?_) (fun q=>?_)))
        ·refine OL (OL ?_)
         obtain ⟨z54,hz54,q⟩ := bE q
         refine lI (Int×Bool×Int×Int×Int×Int) (Bool×Int×Int×Int×Int) (fun x=>⟨[(2,.dat T2 step),(3,P0 0 0),(4,P0 1 0),(6,P0 2 0),(8,.dat T2 (rd (0:Int) a.1 (0:Int))),(9,.dat T2 (rd (0:Int) a.1 (1:Int))),(10,.dat T2 (rd (0:Int) k.1 (0:Int))),(11,.dat T2 (rd (0:Int) k.1 (2:Int))),(12,.dat T2 (i64.wrap ((i64.wrap (Int.tdiv (i64.wrap ((rd (0:Int) a.1 (1:Int)) - (rd (0:Int) k.1 (2:Int)))) step)) + (1:Int)))),(13,P0 3 0),(14,.dat T2 i),(15,.dat T2 j),(16,P0 4 0),(17,.dat T2 x_),(18,.dat T2 x.1)],[(0,.cells [(.d T1 a.1),(.d T1 a.2)]),(1,.cells [(.d T1 k.1),(.d T1 k.2)]),(2,.cells [N0,N0]),(3,.cells [(.osl 5),(.osl 6)]),(4,.cells [(.d .bool x.2.1),(.d T4 x.2.2.1),(.d T4 x.2.2.2.1),(.d T4 x.2.2.2.2.1),(.d T4 x.2.2.2.2.2)]),(5,.arr 3 T2 r14.1),(6,.arr 40 T2 l5_2)],7⟩) (fun z=>[(8,⟨[(2,.dat T2 step),(3,P0 0 0),(4,P0 1 0),(6,P0 2 0),(8,.dat T2 (rd (0:Int) a.1 (0:Int))),(9,.dat T2 (rd (0:Int) a.1 (1:Int))),(10,.dat T2 (rd (0:Int) k.1 (0:Int))),(11,.dat T2 (rd (0:Int) k.1 (2:Int))),(12,.dat T2 (i64.wrap ((i64.wrap (Int.tdiv (i64.wrap ((rd (0:Int) a.1 (1:Int)) - (rd (0:Int) k.1 (2:Int)))) step)) + (1:Int)))),(13,P0 3 0),(14,.dat T2 i),(15,.dat T2 j),(16,P0 4 0),(17,.dat T2 x_)],[(0,.cells [(.d T1 a.1),(.d T1 a.2)]),(1,.cells [(.d T1 k.1),(.d T1 k.2)]),(2,.cells [N0,N0]),(3,.cells [(.osl 5),(.osl 6)]),(4,.cells [(.d .bool z.1),(.d T4 z.2.1),(.d T4 z.2.2.1),(.d T4 z.2.2.2.1),(.d T4 z.2.2.2.2)]),(5,.arr 3 T2 r14.1),(6,.arr 40 T2 l5_2)],7⟩)]) (loopF (fun go x=>f161_l46 a k step i j x_ go x.1 x.2.1 x.2.2.1 x.2.2.2.1 x.2.2.2.2.1 x.2.2.2.2.2)) fuelN ((0:Int),c4_0,c4_1,c4_2,c4_3,c4_4) z54 (AI hz54 (AI (E4 I7 (R11 (AI (R5 TV) (R7 TV)))) (AI (fun _ _ h=>lZ h) (AI (fun m=>curI (fun y_=>curI (fun c4_0_2=>curI (fun c4_1_2=>curI (fun c4_2_2=>curI (fun c4_3_2=>fun c4_4_2 z q=>?_)))))) ?_))))
         ·have q : f161_l46 a k step i j x_ (loopF (fun go x=>f161_l46 a k step i j x_ go x.1 x.2.1 x.2.2.1 x.2.2.2.1 x.2.2.2.2.1 x.2.2.2.2.2) m) y_ c4_0_2 c4_1_2 c4_2_2 c4_3_2 c4_4_2 = some z := q
          unfold f161_l46 at q
          refine OL (OL (cI q (fun q=>?_) (fun q=>?_)))
          ·refine OL (EI (.take 0 (.take 1 (.take 2 (.take 3 (.take 4 (.take 5 (.take 6 (.take 7 (.take 8 (.take 9 (.take 10 (.take 11 (.take 12 (.take 13 (.take 14 (.take 15 (.take 16 (.take 17 (.take 18 (.take 19 (.take 20 (.take 21 (.take 22 (.take 23 (.take 24 (.take 25 (.take 26 (.alt 27 (.alt 28 (.alt 29 .done .done) .done) .done)))))))))))))))))))))))))))) (EI [(29,[4])] (EI [] (AI rfl (gI q (fun q=>?_))))))
           refine gI q (fun q=>?_)
           refine AI TV ?_
           obtain ⟨q23_27,hq23_27,q⟩ := bE q
           refine OL (AI f179_in (cV (cQ C179 ((rd (0:Int) a.2 (i64.wrap ((i64.wrap ((i64.wrap (x_ * (rd (0:Int) a.1 (1:Int)))) + (i64.wrap (j * step)))) + y_))),(rd (0:Int) k.2 (i64.wrap ((i64.wrap ((i64.wrap ((i64.wrap (i * (rd (0:Int) a.1 (0:Int)))) + x_)) * (rd (0:Int) k.1 (2:Int)))) + y_)))) q23_27 [] false C179_holds hq23_27 rfl rfl (R2 (K0 (AI TV ?_))))))
           obtain ⟨q23_28,hq23_28,q⟩ := bE q
           refine OL (AI f139_in (cV (cQ C139 (c4_0_2,c4_1_2,c4_2_2,c4_3_2,c4_4_2,q23_27.1,q23_27.2.1,q23_27.2.2.1,q23_27.2.2.2.1,q23_27.2.2.2.2) q23_28 [] false C139_holds hq23_28 rfl rfl (AI NH (R2 (AI (R2 TV) (AI TV (AI TV (OL (EI ((i64.wrap (y_ + (1:Int))),q23_28.1,q23_28.2.1,q23_28.2.2.1,q23_28.2.2.2.1,q23_28.2.2.2.2) (AI q (E4 I7 (R11 (AI (R5 TV) (R7 TV)))))))))))))))
          cases sE q
          refine E4 I7 (R10 (AI (R5 TV) (R7 TV)))
         refine AI (EI ((i64.wrap (x_ + (1:Int))),z54.1,z54.2.1,z54.2.2.1,z54.2.2.2.1,z54.2.2.2.2) (AI q (E4 I7 (R10 (AI (R5 TV) (R7 TV)))))) TV
        cases sE q
        refine E4 I7 (R9 (AI (R5 TV) (R7 TV)))
       refine AI (EI (.take 0 (.take 1 (.take 2 (.take 3 (.take 4 (.take 5 (.take 6 (.take 7 (.alt 8 (.alt 9 (.take 10 (.alt 11 .done .done)) .done) .done))))))))) (EI [] (EI [] (AI rfl (AI TV ?_))))) TV
       obtain ⟨q24_8,hq24_8,q⟩ := bE q
       refine OL (AI f180_in (cV (cQ C180 (z53.1,z53.2.1,z53.2.2.1,z53.2.2.2.1,z53.2.2.2.2,(32:Int)) q24_8 [] false C180_holds hq24_8 rfl rfl (AI rfl (AI NH (R2 (AJ (AI TV (AI TV ?_)))))))))
       obtain ⟨q24_9,hq24_9,q⟩ := bE q
       refine OL (AI f120_in (cV (cQ C120 (q24_8.1,q24_8.2.1,q24_8.2.2.1,q24_8.2.2.2.1,q24_8.2.2.2.2) q24_9 [] false C120_holds hq24_9 rfl rfl (AI NH (R2 (AJ (AI TV (gI q (fun q=>?_)))))))))
       refine AI TV (OL (EI ((i64.wrap (j + (1:Int))),(List.set l5_2 (Int.toNat (i64.wrap ((i64.wrap (i * (i64.wrap ((i64.wrap (Int.tdiv (i64.wrap ((rd (0:Int) a.1 (1:Int)) - (rd (0:Int) k.1 (2:Int)))) step)) + (1:Int))))) + j))) q24_9)) (AI q (E4 [(0,some 0),(1,some 1),(2,some 2),(3,some 3),(4,some 5),(5,some 6)] (R9 (AI (R4 TV) (R6 TV)))))))
      cases sE q
      refine E4 I6 (R8 (AI (R4 TV) (R6 TV)))
     refine AI (EI ((i64.wrap (i + (1:Int))),z50) (AI q (E4 I6 (R8 (AI (R4 TV) (R6 TV)))))) TV
    cases sE q
    refine E4 [(0,some 2),(1,some 3),(2,some 4),(3,some 5)] (AI rfl (AI (R2 TV) (R4 TV)))
   refine AI (OL (OL ?_)) TV
   cases sE q
   refine AI rfl (E4 [(0,some 2),(1,some 3)] (R2 (AJ (R2 TV))))
  dsimp only [sumF] at q
  refine AI ?_ TV
  cases sE q
  refine AI rfl (E4 [(0,none),(1,none)] (R2 (AJ (R2 TV))))
 dsimp only [sumF] at q
 refine AI ?_ TV
 cases sE q
 refine AI rfl (E4 [(0,none),(1,none)] (R2 (AJ (R2 TV))))
theorem C161_holds : HP C161 161 := hH Tryz.f161 (by kernel_rfl) rfl (fun x y q=>C161_vc x.1 x.2.1 x.2.2 y q)
theorem f161_in : InP 161 := inP (by kernel_rfl)
def f125_j3 (a : LI×LI) (w:Int) : Option Bool :=
 bif (decide (w < (1:Int))) then
 some true
 else
 guardF (0 ≤ (1:Int) ∧ (1:Int) < (List.length a.1:Int)) <|
 some (decide (w > (rd (0:Int) a.1 (1:Int))))
def f125_j2 (a : LI×LI) (w:Int) : Option (Sum Unit Unit) :=
 bindF (f125_j3 a w) fun z4 =>
 bif z4 then
 some (Sum.inr ())
 else
 some (Sum.inl ())
def f125_l16 (a : LI×LI) (w:Int) (x_:Int) (j:Int) (go : (Int×Int) → Option Int) (best:Int) (y_:Int) : Option Int :=
 bif (decide (y_ < w)) then
 guardF (0 ≤ (i64.wrap ((i64.wrap ((i64.wrap (x_ * (rd (0:Int) a.1 (1:Int)))) + (i64.wrap (j * w)))) + y_)) ∧ (i64.wrap ((i64.wrap ((i64.wrap (x_ * (rd (0:Int) a.1 (1:Int)))) + (i64.wrap (j * w)))) + y_)) < (List.length a.2:Int)) <|
 guardF (0 ≤ best ∧ best < (List.length a.2:Int)) <|
 bif (decide ((rd (0:Int) a.2 (i64.wrap ((i64.wrap ((i64.wrap (x_ * (rd (0:Int) a.1 (1:Int)))) + (i64.wrap (j * w)))) + y_))) > (rd (0:Int) a.2 best))) then
 go ((i64.wrap ((i64.wrap ((i64.wrap (x_ * (rd (0:Int) a.1 (1:Int)))) + (i64.wrap (j * w)))) + y_)),(i64.wrap (y_ + (1:Int))))
 else
 go (best,(i64.wrap (y_ + (1:Int))))
 else
 some best
def f125_l15 (a : LI×LI) (w:Int) (x_:Int) (go : (Int×LI×LI) → Option (LI×LI)) (j:Int) (l3_2 : LI) (l5_2 : LI) : Option (LI×LI) :=
 bif (decide (j < (i64.wrap (Int.tdiv (rd (0:Int) a.1 (1:Int)) w)))) then
 bindF (loopF (fun go x=>f125_l16 a w x_ j go x.1 x.2) fuelN ((i64.wrap ((i64.wrap (x_ * (rd (0:Int) a.1 (1:Int)))) + (i64.wrap (j * w)))),(1:Int))) fun z17 =>
 guardF (0 ≤ z17 ∧ z17 < (List.length a.2:Int)) <|
 guardF (0 ≤ (i64.wrap ((i64.wrap (x_ * (i64.wrap (Int.tdiv (rd (0:Int) a.1 (1:Int)) w)))) + j)) ∧ (i64.wrap ((i64.wrap (x_ * (i64.wrap (Int.tdiv (rd (0:Int) a.1 (1:Int)) w)))) + j)) < (List.length l5_2:Int)) <|
 guardF ((List.length l3_2 + List.length ([z17])) * 8 ≤ 140737488355328) <|
 go ((i64.wrap (j + (1:Int))),(l3_2 ++ ([z17])),(List.set l5_2 (Int.toNat (i64.wrap ((i64.wrap (x_ * (i64.wrap (Int.tdiv (rd (0:Int) a.1 (1:Int)) w)))) + j))) (rd (0:Int) a.2 z17)))
 else
 some (l3_2,l5_2)
def f125_l12 (a : LI×LI) (w:Int) (go : (Int×LI×LI) → Option (LI×LI)) (x_:Int) (l3 : LI) (l5 : LI) : Option (LI×LI) :=
 bif (decide (x_ < (rd (0:Int) a.1 (0:Int)))) then
 bindF (loopF (fun go x=>f125_l15 a w x_ go x.1 x.2.1 x.2.2) fuelN ((0:Int),l3,l5)) fun z16 =>
 go ((i64.wrap (x_ + (1:Int))),z16.1,z16.2)
 else
 some (l3,l5)
def f125 (a : LI×LI) (w:Int) : Option (Int×LI×LI×LI) :=
 bindF (f62 (a.1,a.2)) fun r1 =>
 bif (!r1) then
 some ((1:Int),[],[],[])
 else
 bif ((List.length a.1:Int) != (2:Int)) then
 some ((4:Int),[],[],[])
 else
 bindF (f125_j2 a w) fun z3 =>
 sumF z3 (fun z3a =>
 guardF (0 ≤ (0:Int) ∧ (0:Int) < (List.length a.1:Int)) <|
 guardF (0 ≤ (1:Int) ∧ (1:Int) < (List.length a.1:Int)) <|
 guardF (w ≠ 0) <|
 bindF (f71 ([(rd (0:Int) a.1 (0:Int)),(i64.wrap (Int.tdiv (rd (0:Int) a.1 (1:Int)) w))]) (0:Int)) fun q7_9 =>
 bindF (loopF (fun go x=>f125_l12 a w go x.1 x.2.1 x.2.2) fuelN ((0:Int),[],q7_9.2)) fun z13 =>
 some ((0:Int),q7_9.1,z13.2,z13.1)) (fun z3b =>
 some ((1:Int),[],[],[]))
def C125 : Con where
 X := (LI×LI)×Int
 Y := Int×LI×LI×LI
 e := 0
 args x := [.dat T3 x.1,.dat T2 x.2]
 hin x := []
 F x := f125 x.1 x.2
 ret y := [.raw true [(.osl 0),(.osl 1)],O0 2,.dat T2 y.1]
 hout y := [(0,.arr 3 T2 y.2.1),(1,.arr 40 T2 y.2.2.1),(2,.arr 3 T2 y.2.2.2)]
 nout := 3
theorem C125_vc (a : LI×LI) (w:Int) (y : Int×LI×LI×LI) (q : f125 a w = some y) : VC Tryz.f125 C125 (a,w) y := by
 unfold f125 at q
 refine OL (OL (OL ?_))
 obtain ⟨r1,hr1,q⟩ := bE q
 refine OL (AI f62_in (cV (cQ C62 (a.1,a.2) r1 [] false C62_holds hr1 rfl rfl (R2 (K0 (cI q (fun q=>?_) (fun q=>?_)))))))
 ·refine OL (OL ?_)
  cases sE q
  refine AI rfl (E4 [(0,none),(1,none),(2,none)] (R2 (AI (R2 TV) (R3 TV))))
 refine OL (OL (cI q (fun q=>?_) (fun q=>?_)))
 ·refine OL (OL ?_)
  cases sE q
  refine AI rfl (E4 [(0,none),(1,none),(2,none)] (R2 (AI (R2 TV) (R3 TV))))
 obtain ⟨z3,hz3,q⟩ := bE q
 refine OQ ⟨Sum.elim (fun z3a=>[(0,⟨[(1,.dat T2 w),(2,P0 0 0),(4,P0 1 0)],[(0,.cells [(.d T1 a.1),(.d T1 a.2)]),(1,.cells [N0,N0])],2⟩)]) (fun z3b=>[(1,⟨[(4,P0 0 0),(5,.raw false [N0]),(6,D0 1)],[(0,.cells [N0,N0])],1⟩)]) z3,?_,?_⟩
 ·have q := hz3
  clear hz3
  unfold f125_j2 at q
  obtain ⟨z4,hz4,q⟩ := bE q
  refine OQ ⟨[(0,⟨[(1,.dat T2 w),(2,P0 0 0),(4,P0 1 0),(34,.dat .bool z4)],[(0,.cells [(.d T1 a.1),(.d T1 a.2)]),(1,.cells [N0,N0])],2⟩)],?_,?_⟩
  ·have q := hz4
   clear hz4
   unfold f125_j3 at q
   refine cN q (fun q=>?_) (fun q=>?_)
   ·refine gY (gY (gY (gI q (fun q=>?_))))
    refine gY (gY (cF ?_))
    cases sE q
    refine E4 I2 (R3 (AI (R2 TV) (R2 TV)))
   refine gN (gN (gN (gN (gN (cT ?_)))))
   cases sE q
   refine E4 I2 (R3 (AI (R2 TV) (R2 TV)))
  refine AI (cI q (fun q=>?_) (fun q=>?_)) TV
  ·refine OL (OL ?_)
   cases sE q
   refine E4 [(0,some 1)] (R2 (AI (R2 TV) (AI rfl TV)))
  cases sE q
  refine E4 I2 (R2 (AI (R2 TV) (R2 TV)))
 rcases z3 with z3a | z3b
 ·dsimp only [sumF] at q
  refine AI (OL (EI (.take 0 (.take 1 (.take 2 (.take 3 (.take 4 (.take 5 (.take 6 (.take 7 (.take 8 (.take 9 .done)))))))))) (EI [] (EI [] (AI rfl (gI q (fun q=>?_))))))) TV
  refine gI q (fun q=>?_)
  refine OL (gI q (fun q=>?_))
  refine OL (OL ?_)
  obtain ⟨q7_9,hq7_9,q⟩ := bE q
  refine OL (AI f71_in (cV (cQ C71 ([(rd (0:Int) a.1 (0:Int)),(i64.wrap (Int.tdiv (rd (0:Int) a.1 (1:Int)) w))],(0:Int)) q7_9 [] true C71_holds hq7_9 rfl rfl (R2 (AI (fun _=>rfl) (R2 (AI TV (AI TV (OL (OL (OL (OL ?_))))))))))))
  obtain ⟨z13,hz13,q⟩ := bE q
  refine lI (Int×LI×LI) (LI×LI) (fun x=>⟨[(1,.dat T2 w),(2,P0 0 0),(4,P0 1 0),(7,.dat T2 (rd (0:Int) a.1 (0:Int))),(8,.dat T2 (rd (0:Int) a.1 (1:Int))),(9,.dat T2 (i64.wrap (Int.tdiv (rd (0:Int) a.1 (1:Int)) w))),(10,P0 2 0),(11,O0 3),(12,.dat T2 x.1)],[(0,.cells [(.d T1 a.1),(.d T1 a.2)]),(1,.cells [N0,N0]),(2,.cells [(.osl 4),(.osl 5)]),(3,.arr 3 T2 x.2.1),(4,.arr 3 T2 q7_9.1),(5,.arr 40 T2 x.2.2)],6⟩) (fun z=>[(2,⟨[(4,P0 0 0),(10,P0 1 0),(11,O0 2)],[(0,.cells [N0,N0]),(1,.cells [(.osl 3),(.osl 4)]),(2,.arr 3 T2 z.1),(3,.arr 3 T2 q7_9.1),(4,.arr 40 T2 z.2)],5⟩)]) (loopF (fun go x=>f125_l12 a w go x.1 x.2.1 x.2.2)) fuelN ((0:Int),[],q7_9.2) z13 (AI hz13 (AI (E4 [(0,some 0),(1,some 1),(2,some 5),(3,none),(4,some 3),(5,some 4)] (R6 (AI (R4 TV) (R6 TV)))) (AI (fun _ _ h=>lZ h) (AI (fun m=>curI (fun x_=>curI (fun l3=>fun l5 z q=>?_))) ?_))))
  ·have q : f125_l12 a w (loopF (fun go x=>f125_l12 a w go x.1 x.2.1 x.2.2) m) x_ l3 l5 = some z := q
   unfold f125_l12 at q
   refine OL (OL (cI q (fun q=>?_) (fun q=>?_)))
   ·refine OL (OL ?_)
    obtain ⟨z16,hz16,q⟩ := bE q
    refine lI (Int×LI×LI) (LI×LI) (fun x=>⟨[(1,.dat T2 w),(2,P0 0 0),(4,P0 1 0),(7,.dat T2 (rd (0:Int) a.1 (0:Int))),(8,.dat T2 (rd (0:Int) a.1 (1:Int))),(9,.dat T2 (i64.wrap (Int.tdiv (rd (0:Int) a.1 (1:Int)) w))),(10,P0 2 0),(11,O0 3),(12,.dat T2 x_),(13,.dat T2 x.1)],[(0,.cells [(.d T1 a.1),(.d T1 a.2)]),(1,.cells [N0,N0]),(2,.cells [(.osl 4),(.osl 5)]),(3,.arr 3 T2 x.2.1),(4,.arr 3 T2 q7_9.1),(5,.arr 40 T2 x.2.2)],6⟩) (fun z=>[(4,⟨[(1,.dat T2 w),(2,P0 0 0),(4,P0 1 0),(7,.dat T2 (rd (0:Int) a.1 (0:Int))),(8,.dat T2 (rd (0:Int) a.1 (1:Int))),(9,.dat T2 (i64.wrap (Int.tdiv (rd (0:Int) a.1 (1:Int)) w))),(10,P0 2 0),(11,O0 3),(12,.dat T2 x_)],[(0,.cells [(.d T1 a.1),(.d T1 a.2)]),(1,.cells [N0,N0]),(2,.cells [(.osl 4),(.osl 5)]),(3,.arr 3 T2 z.1),(4,.arr 3 T2 q7_9.1),(5,.arr 40 T2 z.2)],6⟩)]) (loopF (fun go x=>f125_l15 a w x_ go x.1 x.2.1 x.2.2)) fuelN ((0:Int),l3,l5) z16 (AI hz16 (AI (E4 I6 (R7 (AI (R4 TV) (R6 TV)))) (AI (fun _ _ h=>lZ h) (AI (fun m=>curI (fun j=>curI (fun l3_2=>fun l5_2 z q=>?_))) ?_))))
    ·have q : f125_l15 a w x_ (loopF (fun go x=>f125_l15 a w x_ go x.1 x.2.1 x.2.2) m) j l3_2 l5_2 = some z := q
     unfold f125_l15 at q
     refine OL (OL (cI q (fun q=>?_) (fun q=>?_)))
     ·refine OL (OL (OL (OL ?_)))
      obtain ⟨z17,hz17,q⟩ := bE q
      refine lI (Int×Int) Int (fun x=>⟨[(1,.dat T2 w),(2,P0 0 0),(4,P0 1 0),(7,.dat T2 (rd (0:Int) a.1 (0:Int))),(8,.dat T2 (rd (0:Int) a.1 (1:Int))),(9,.dat T2 (i64.wrap (Int.tdiv (rd (0:Int) a.1 (1:Int)) w))),(10,P0 2 0),(11,O0 3),(12,.dat T2 x_),(13,.dat T2 j),(14,.dat T2 x.1),(15,.dat T2 x.2)],[(0,.cells [(.d T1 a.1),(.d T1 a.2)]),(1,.cells [N0,N0]),(2,.cells [(.osl 4),(.osl 5)]),(3,.arr 3 T2 l3_2),(4,.arr 3 T2 q7_9.1),(5,.arr 40 T2 l5_2)],6⟩) (fun z=>[(6,⟨[(1,.dat T2 w),(2,P0 0 0),(4,P0 1 0),(7,.dat T2 (rd (0:Int) a.1 (0:Int))),(8,.dat T2 (rd (0:Int) a.1 (1:Int))),(9,.dat T2 (i64.wrap (Int.tdiv (rd (0:Int) a.1 (1:Int)) w))),(10,P0 2 0),(11,O0 3),(12,.dat T2 x_),(13,.dat T2 j),(14,.dat T2 z)],[(0,.cells [(.d T1 a.1),(.d T1 a.2)]),(1,.cells [N0,N0]),(2,.cells [(.osl 4),(.osl 5)]),(3,.arr 3 T2 l3_2),(4,.arr 3 T2 q7_9.1),(5,.arr 40 T2 l5_2)],6⟩)]) (loopF (fun go x=>f125_l16 a w x_ j go x.1 x.2)) fuelN ((i64.wrap ((i64.wrap (x_ * (rd (0:Int) a.1 (1:Int)))) + (i64.wrap (j * w)))),(1:Int)) z17 (AI hz17 (AI (E4 I6 (R9 (AI (R4 TV) (R6 TV)))) (AI (fun _ _ h=>lZ h) (AI (fun m=>curI (fun best=>fun y_ z q=>?_)) ?_))))
      ·have q : f125_l16 a w x_ j (loopF (fun go x=>f125_l16 a w x_ j go x.1 x.2) m) best y_ = some z := q
       unfold f125_l16 at q
       refine OL (OL (cI q (fun q=>?_) (fun q=>?_)))
       ·refine OL (OL (EI (.take 0 (.take 1 (.take 2 (.take 3 (.take 4 (.take 5 (.take 6 (.take 7 (.take 8 (.take 9 (.take 10 (.take 11 (.take 12 (.take 13 (.take 14 (.take 15 (.take 16 (.take 17 (.take 18 .done))))))))))))))))))) (EI [] (EI [] (AI rfl (gI q (fun q=>?_)))))))
        refine gI q (fun q=>?_)
        refine cI q (fun q=>?_) (fun q=>?_)
        ·refine EI ((i64.wrap ((i64.wrap ((i64.wrap (x_ * (rd (0:Int) a.1 (1:Int)))) + (i64.wrap (j * w)))) + y_)),(i64.wrap (y_ + (1:Int)))) (AI q (E4 I6 (R9 (AI (R4 TV) (R6 TV)))))
        refine EI (best,(i64.wrap (y_ + (1:Int)))) (AI q (E4 I6 (R9 (AI (R4 TV) (R6 TV)))))
       cases sE q
       refine E4 I6 (R8 (AI (R4 TV) (R6 TV)))
      refine AI (OL (EI (.take 0 (.take 1 (.take 2 (.take 3 (.take 4 (.take 5 (.take 6 (.take 7 (.take 8 (.take 9 (.take 10 (.take 11 (.take 12 (.alt 13 .done .done)))))))))))))) (EI [] (EI [] (AI rfl (gI q (fun q=>?_))))))) TV
      refine gI q (fun q=>?_)
      refine AI TV (OL (OL (OL (gI q (fun q=>?_)))))
      refine EI ((i64.wrap (j + (1:Int))),(l3_2 ++ ([z17])),(List.set l5_2 (Int.toNat (i64.wrap ((i64.wrap (x_ * (i64.wrap (Int.tdiv (rd (0:Int) a.1 (1:Int)) w)))) + j))) (rd (0:Int) a.2 z17))) (AI q (E4 [(0,some 0),(1,some 1),(2,some 2),(3,some 7),(4,some 4),(5,some 5)] (R7 (AI (R4 TV) (R6 TV)))))
     cases sE q
     refine E4 I6 (R6 (AI (R4 TV) (R6 TV)))
    refine AI (EI ((i64.wrap (x_ + (1:Int))),z16.1,z16.2) (AI q (E4 I6 (R6 (AI (R4 TV) (R6 TV)))))) TV
   cases sE q
   refine E4 [(0,some 1),(1,some 2),(2,some 3),(3,some 4),(4,some 5)] (AI rfl (AI (R3 TV) (R5 TV)))
  refine AI (OL (OL ?_)) TV
  cases sE q
  refine AI rfl (E4 [(0,some 3),(1,some 4),(2,some 2)] (R2 (AI (R2 TV) (R3 TV))))
 dsimp only [sumF] at q
 refine AI ?_ TV
 cases sE q
 refine AI rfl (E4 [(0,none),(1,none),(2,none)] (R2 (AI (R2 TV) (R3 TV))))
theorem C125_holds : HP C125 125 := hH Tryz.f125 (by kernel_rfl) rfl (fun x y q=>C125_vc x.1 x.2 y q)
theorem f125_in : InP 125 := inP (by kernel_rfl)
def f126_j3 (a : LI×LI) (d : LI) : Option Bool :=
 bindF (f62 (a.1,a.2)) fun r9 =>
 bif (!r9) then
 some true
 else
 bindF (f102 d) fun r10 =>
 some (!r10)
def f126_j2 (a : LI×LI) (d : LI) : Option (Sum Unit Unit) :=
 bindF (f126_j3 a d) fun z8 =>
 bif z8 then
 some (Sum.inr ())
 else
 some (Sum.inl ())
def f126 (a : LI×LI) (d : LI) : Option (Int×LI×LI) :=
 bindF (f126_j2 a d) fun z5 =>
 sumF z5 (fun z5a =>
 bindF (f103 d) fun q3_1 =>
 bif (q3_1 != (List.length a.2:Int)) then
 some ((4:Int),[],[])
 else
 guardF ((List.length ([] : LI) + List.length d) * 8 ≤ 140737488355328) <|
 guardF ((List.length ([] : LI) + List.length a.2) * 8 ≤ 140737488355328) <|
 some ((0:Int),(([] : LI) ++ d),(([] : LI) ++ a.2))) (fun z5b =>
 some ((1:Int),[],[]))
def C126 : Con where
 X := (LI×LI)×LI
 Y := Int×LI×LI
 e := 0
 args x := [.dat T3 x.1,.dat T1 x.2]
 hin x := []
 F x := f126 x.1 x.2
 ret y := [.raw true [(.osl 0),(.osl 1)],.dat T2 y.1]
 hout y := [(0,.arr 3 T2 y.2.1),(1,.arr 40 T2 y.2.2)]
 nout := 2
theorem C126_vc (a : LI×LI) (d : LI) (y : Int×LI×LI) (q : f126 a d = some y) : VC Tryz.f126 C126 (a,d) y := by
 unfold f126 at q
 refine OL ?_
 obtain ⟨z5,hz5,q⟩ := bE q
 refine OQ ⟨Sum.elim (fun z5a=>[(0,⟨[(1,.dat T1 d),(2,P0 0 0),(4,P0 1 0)],[(0,.cells [(.d T1 a.1),(.d T1 a.2)]),(1,.cells [N0,N0])],2⟩)]) (fun z5b=>[(1,⟨[(4,P0 0 0),(5,D0 1)],[(0,.cells [N0,N0])],1⟩)]) z5,?_,?_⟩
 ·have q := hz5
  clear hz5
  unfold f126_j2 at q
  obtain ⟨z8,hz8,q⟩ := bE q
  refine OQ ⟨[(0,⟨[(1,.dat T1 d),(2,P0 0 0),(4,P0 1 0),(13,.dat .bool z8)],[(0,.cells [(.d T1 a.1),(.d T1 a.2)]),(1,.cells [N0,N0])],2⟩)],?_,?_⟩
  ·have q := hz8
   clear hz8
   unfold f126_j3 at q
   obtain ⟨r9,hr9,q⟩ := bE q
   refine OL (AI f62_in (cV (cQ C62 (a.1,a.2) r9 [] false C62_holds hr9 rfl rfl (R2 (K0 (cN q (fun q=>?_) (fun q=>?_)))))))
   ·refine gY ?_
    obtain ⟨r10,hr10,q⟩ := bE q
    refine OL (AI f102_in (cV (cQ C102 d r10 [] false C102_holds hr10 rfl rfl (AI rfl (K0 (gY (cF ?_)))))))
    cases sE q
    refine E4 I2 (R3 (AI (R2 TV) (R2 TV)))
   refine gN (gN (cT ?_))
   cases sE q
   refine E4 I2 (R3 (AI (R2 TV) (R2 TV)))
  refine AI (cI q (fun q=>?_) (fun q=>?_)) TV
  ·refine OL (OL ?_)
   cases sE q
   refine E4 [(0,some 1)] (R2 (AJ (AI rfl TV)))
  cases sE q
  refine E4 I2 (R2 (AI (R2 TV) (R2 TV)))
 rcases z5 with z5a | z5b
 ·dsimp only [sumF] at q
  refine AI (OL (OL (EI (.take 0 (.take 2 (.take 3 (.take 4 (.alt 1 (.take 5 .done) .done))))) (EI [] (EI [] (AI rfl (AI TV ?_))))))) TV
  obtain ⟨q3_1,hq3_1,q⟩ := bE q
  refine OL (AI f103_in (cV (cQ C103 d q3_1 [] false C103_holds hq3_1 rfl rfl (AI rfl (K0 (cI q (fun q=>?_) (fun q=>?_)))))))
  ·refine OL (OL ?_)
   cases sE q
   refine AI rfl (E4 [(0,none),(1,none)] (R2 (AJ (R2 TV))))
  refine OL ?_
  obtain ⟨g5_0,q⟩ := gE q
  obtain ⟨g5_1,q⟩ := gE q
  refine EI (.take 1 (.take 4 (.take 5 (.alt 0 (.alt 2 (.alt 3 (.alt 6 (.take 7 (.alt 8 (.take 9 .done) .done)) .done) .done) (.alt 3 (.alt 2 (.alt 6 (.take 7 (.alt 8 (.take 9 .done) .done)) .done) .done) .done)) (.alt 3 (.alt 0 (.alt 2 (.alt 6 (.take 7 (.alt 8 (.take 9 .done) .done)) .done) .done) .done) .done))))) (EI [] (EI [] (AI rfl (AI (AI TV ?_) ?_))))
  ·refine OL (AI TV (OL (AI TV (OL (AI g5_0 (AI TV (OL (AI g5_1 (AI TV (OL ?_))))))))))
   cases sE q
   refine AI rfl (E4 [(0,some 4),(1,some 5)] (R2 (AJ (R2 TV))))
  refine OL (AI (AI TV ?_) ?_)
  ·refine OL (AI TV (OL (AI g5_0 (AI TV (OL (AI g5_1 (AI TV (OL ?_))))))))
   cases sE q
   refine AI rfl (E4 [(0,some 4),(1,some 5)] (R2 (AJ (R2 TV))))
  refine OL (AI g5_0 (AI TV (OL (AI TV (OL (AI g5_1 (AI TV (OL ?_))))))))
  cases sE q
  refine AI rfl (E4 [(0,some 3),(1,some 5)] (R2 (AJ (R2 TV))))
 dsimp only [sumF] at q
 refine AI ?_ TV
 cases sE q
 refine AI rfl (E4 [(0,none),(1,none)] (R2 (AJ (R2 TV))))
theorem C126_holds : HP C126 126 := hH Tryz.f126 (by kernel_rfl) rfl (fun x y q=>C126_vc x.1 x.2 y q)
theorem f126_in : InP 126 := inP (by kernel_rfl)
def f109_j4 (op:Int) : Option Bool :=
 bif (op == (2:Int)) then
 some (op == (2:Int))
 else
 bif (op == (3:Int)) then
 some (op == (3:Int))
 else
 some (op == (4:Int))
def f109_j5 (a : LI×LI) (k:Int) : Option (Int×LI×LI) :=
 bindF (f156 k) fun q23_2 =>
 bindF (f125 (a.1,a.2) q23_2) fun q23_3 =>
 some (q23_3.1,q23_3.2.1,q23_3.2.2.1)
def f109_j3 (op:Int) (a : LI×LI) (b : LI×LI) (k:Int) : Option (Sum Unit (Int×LI×LI)) :=
 bindF (f109_j4 op) fun z11 =>
 bif z11 then
 bindF (f77 (i64.wrap (op - (2:Int))) (a.1,a.2) (b.1,b.2)) fun q23_11 =>
 some (Sum.inr (q23_11.1,q23_11.2.1,q23_11.2.2))
 else
 bif (op == (5:Int)) then
 bindF (f115 (a.1,a.2) k) fun r12 =>
 some (Sum.inr (r12.1,r12.2.1,r12.2.2))
 else
 bif (op == (6:Int)) then
 bindF (f117 (a.1,a.2) (b.1,b.2)) fun r13 =>
 some (Sum.inr (r13.1,r13.2.1,r13.2.2))
 else
 bif (op == (7:Int)) then
 bindF (f116 (a.1,a.2)) fun r14 =>
 some (Sum.inr (r14.1,r14.2.1,r14.2.2))
 else
 bif (op == (8:Int)) then
 bindF (f156 k) fun q13_2 =>
 bindF (f155 (a.1,a.2) q13_2) fun q13_3 =>
 some (Sum.inr (q13_3.1,q13_3.2.1,q13_3.2.2))
 else
 bif (op == (9:Int)) then
 bindF (f158 (a.1,a.2)) fun q13_7 =>
 bindF (f157 q13_7) fun r15 =>
 some (Sum.inr ((0:Int),r15.1,r15.2))
 else
 bif (op == (10:Int)) then
 bindF (f159 (a.1,a.2)) fun r16 =>
 bindF (f157 r16) fun r17 =>
 some (Sum.inr ((0:Int),r17.1,r17.2))
 else
 bif (op == (11:Int)) then
 bindF (f156 k) fun q19_1 =>
 bindF (f160 q19_1 (a.1,a.2)) fun q19_3 =>
 some (Sum.inr (q19_3.1,q19_3.2.1,q19_3.2.2))
 else
 bif (op == (12:Int)) then
 bindF (f156 k) fun q21_3 =>
 bindF (f161 (a.1,a.2) (b.1,b.2) q21_3) fun q21_4 =>
 some (Sum.inr (q21_4.1,q21_4.2.1,q21_4.2.2))
 else
 bif (op == (13:Int)) then
 bindF (f109_j5 a k) fun z18 =>
 some (Sum.inr (z18.1,z18.2.1,z18.2.2))
 else
 some (Sum.inl ())
def f109 (op:Int) (a : LI×LI) (b : LI×LI) (k:Int) : Option (Int×LI×LI) :=
 bindF (f109_j3 op a b k) fun z10 =>
 sumF z10 (fun z10a =>
 bindF (f126 (a.1,a.2) ([(List.length a.2:Int)])) fun r19 =>
 some (r19.1,r19.2.1,r19.2.2)) (fun z10b =>
 some (z10b.1,z10b.2.1,z10b.2.2))
def C109 : Con where
 X := Int×(LI×LI)×(LI×LI)×Int
 Y := Int×LI×LI
 e := 0
 args x := [.dat T2 x.1,.dat T3 x.2.1,.dat T3 x.2.2.1,.dat T2 x.2.2.2]
 hin x := []
 F x := f109 x.1 x.2.1 x.2.2.1 x.2.2.2
 ret y := [.raw true [(.osl 0),(.osl 1)],.dat T2 y.1]
 hout y := [(0,.arr 3 T2 y.2.1),(1,.arr 40 T2 y.2.2)]
 nout := 2
theorem C109_vc (op:Int) (a : LI×LI) (b : LI×LI) (k:Int) (y : Int×LI×LI) (q : f109 op a b k = some y) : VC Tryz.f109 C109 (op,a,b,k) y := by
 unfold f109 at q
 refine OL ?_
 obtain ⟨z10,hz10,q⟩ := bE q
 refine OQ ⟨Sum.elim (fun z10a=>[(0,⟨[(5,P0 0 0),(8,P0 1 0)],[(0,.cells [(.d T1 a.1),(.d T1 a.2)]),(1,.cells [N0,N0])],2⟩)]) (fun z10b=>[(1,⟨[(8,P0 0 0),(9,.dat T2 z10b.1)],[(0,.cells [(.osl 1),(.osl 2)]),(1,.arr 3 T2 z10b.2.1),(2,.arr 40 T2 z10b.2.2)],3⟩)]) z10,?_,?_⟩
 ·have q := hz10
  clear hz10
  unfold f109_j3 at q
  refine OL ?_
  obtain ⟨z11,hz11,q⟩ := bE q
  refine OQ ⟨[(0,⟨[(0,.dat T2 op),(3,.dat T2 k),(5,P0 0 0),(6,P0 1 0),(8,P0 2 0),(13,.dat T2 op),(14,.dat .bool z11)],[(0,.cells [(.d T1 a.1),(.d T1 a.2)]),(1,.cells [(.d T1 b.1),(.d T1 b.2)]),(2,.cells [N0,N0])],3⟩)],?_,?_⟩
  ·have q := hz11
   clear hz11
   unfold f109_j4 at q
   refine OL (cI q (fun q=>?_) (fun q=>?_))
   ·cases sE q
    refine E4 I3 (R5 (AI (R3 TV) (R3 TV)))
   refine OL (cI q (fun q=>?_) (fun q=>?_))
   ·cases sE q
    refine E4 I3 (R5 (AI (R3 TV) (R3 TV)))
   cases sE q
   refine E4 I3 (R5 (AI (R3 TV) (R3 TV)))
  refine AI (cI q (fun q=>?_) (fun q=>?_)) TV
  ·refine OL ?_
   obtain ⟨q23_11,hq23_11,q⟩ := bE q
   refine OL (AI f77_in (cV (cQ C77 ((i64.wrap (op - (2:Int))),(a.1,a.2),(b.1,b.2)) q23_11 [] false C77_holds hq23_11 rfl rfl (R5 (K0 (OL ?_))))))
   cases sE q
   refine E4 [(0,some 2),(1,some 3),(2,some 4)] (R2 (AJ (R3 TV)))
  refine OL (cI q (fun q=>?_) (fun q=>?_))
  ·refine OL ?_
   obtain ⟨r12,hr12,q⟩ := bE q
   refine OL (AI f115_in (cV (cQ C115 ((a.1,a.2),k) r12 [] false C115_holds hr12 rfl rfl (R3 (K0 (OL ?_))))))
   cases sE q
   refine E4 [(0,some 2),(1,some 3),(2,some 4)] (R2 (AJ (R3 TV)))
  refine OL (cI q (fun q=>?_) (fun q=>?_))
  ·refine OL ?_
   obtain ⟨r13,hr13,q⟩ := bE q
   refine OL (AI f117_in (cV (cQ C117 ((a.1,a.2),(b.1,b.2)) r13 [] false C117_holds hr13 rfl rfl (R4 (K0 (OL ?_))))))
   cases sE q
   refine E4 [(0,some 2),(1,some 3),(2,some 4)] (R2 (AJ (R3 TV)))
  refine OL (cI q (fun q=>?_) (fun q=>?_))
  ·refine OL ?_
   obtain ⟨r14,hr14,q⟩ := bE q
   refine OL (AI f116_in (cV (cQ C116 (a.1,a.2) r14 [] false C116_holds hr14 rfl rfl (R2 (K0 (OL ?_))))))
   cases sE q
   refine E4 [(0,some 2),(1,some 3),(2,some 4)] (R2 (AJ (R3 TV)))
  refine OL (cI q (fun q=>?_) (fun q=>?_))
  ·refine OL (EI (.take 0 (.take 1 (.alt 2 (.alt 3 (.take 4 (.take 5 (.alt 6 (.take 7 .done) .done))) .done) .done))) (EI [] (EI [] (AI rfl (AI TV ?_)))))
   obtain ⟨q13_2,hq13_2,q⟩ := bE q
   refine OL (AI f156_in (cV (cQ C156 k q13_2 [] false C156_holds hq13_2 rfl rfl (AI rfl (K0 (AI TV ?_))))))
   obtain ⟨q13_3,hq13_3,q⟩ := bE q
   refine OL (AI f155_in (cV (cQ C155 ((a.1,a.2),q13_2) q13_3 [] false C155_holds hq13_3 rfl rfl (R3 (K0 (AI TV (OL ?_)))))))
   cases sE q
   refine E4 [(0,some 2),(1,some 3),(2,some 4)] (R2 (AJ (R3 TV)))
  refine OL (cI q (fun q=>?_) (fun q=>?_))
  ·refine OL ?_
   obtain ⟨q13_7,hq13_7,q⟩ := bE q
   refine OL (AI f158_in (cV (cQ C158 (a.1,a.2) q13_7 [] false C158_holds hq13_7 rfl rfl (R2 (K0 ?_)))))
   obtain ⟨r15,hr15,q⟩ := bE q
   refine OL (AI f157_in (cV (cQ C157 q13_7 r15 [] false C157_holds hr15 rfl rfl (AI rfl (K0 (OL ?_))))))
   cases sE q
   refine E4 [(0,some 2),(1,some 3),(2,some 4)] (R2 (AJ (R3 TV)))
  refine OL (cI q (fun q=>?_) (fun q=>?_))
  ·refine OL ?_
   obtain ⟨r16,hr16,q⟩ := bE q
   refine OL (AI f159_in (cV (cQ C159 (a.1,a.2) r16 [] false C159_holds hr16 rfl rfl (R2 (K0 ?_)))))
   obtain ⟨r17,hr17,q⟩ := bE q
   refine OL (AI f157_in (cV (cQ C157 r16 r17 [] false C157_holds hr17 rfl rfl (AI rfl (K0 (OL ?_))))))
   cases sE q
   refine E4 [(0,some 2),(1,some 3),(2,some 4)] (R2 (AJ (R3 TV)))
  refine OL (cI q (fun q=>?_) (fun q=>?_))
  ·refine OL (EI (.take 0 (.take 2 (.alt 1 (.alt 3 (.take 4 (.take 5 (.alt 6 (.take 7 .done) .done))) .done) .done))) (EI [] (EI [] (AI rfl (AI TV ?_)))))
   obtain ⟨q19_1,hq19_1,q⟩ := bE q
   refine OL (AI f156_in (cV (cQ C156 k q19_1 [] false C156_holds hq19_1 rfl rfl (AI rfl (K0 (AI TV ?_))))))
   obtain ⟨q19_3,hq19_3,q⟩ := bE q
   refine OL (AI f160_in (cV (cQ C160 (q19_1,(a.1,a.2)) q19_3 [] false C160_holds hq19_3 rfl rfl (R3 (K0 (AI TV (OL ?_)))))))
   cases sE q
   refine E4 [(0,some 2),(1,some 3),(2,some 4)] (R2 (AJ (R3 TV)))
  refine OL (cI q (fun q=>?_) (fun q=>?_))
  ·refine OL (EI (.take 0 (.take 1 (.take 2 (.alt 3 (.alt 4 (.take 5 (.take 6 (.alt 7 (.take 8 .done) .done))) .done) .done)))) (EI [] (EI [] (AI rfl (AI TV ?_)))))
   obtain ⟨q21_3,hq21_3,q⟩ := bE q
   refine OL (AI f156_in (cV (cQ C156 k q21_3 [] false C156_holds hq21_3 rfl rfl (AI rfl (K0 (AI TV ?_))))))
   obtain ⟨q21_4,hq21_4,q⟩ := bE q
   refine OL (AI f161_in (cV (cQ C161 ((a.1,a.2),(b.1,b.2),q21_3) q21_4 [] false C161_holds hq21_4 rfl rfl (R5 (K0 (AI TV (OL ?_)))))))
   cases sE q
   refine E4 [(0,some 2),(1,some 3),(2,some 4)] (R2 (AJ (R3 TV)))
  refine OL (cI q (fun q=>?_) (fun q=>?_))
  ·obtain ⟨z18,hz18,q⟩ := bE q
   refine OQ ⟨[(0,⟨[(8,P0 0 0),(10,P0 1 0),(12,.dat T2 z18.1)],[(0,.cells [N0,N0]),(1,.cells [(.osl 2),(.osl 3)]),(2,.arr 3 T2 z18.2.1),(3,.arr 40 T2 z18.2.2)],4⟩)],?_,?_⟩
   ·have q := hz18
    clear hz18
    unfold f109_j5 at q
    obtain ⟨q23_2,hq23_2,q⟩ := bE q
    obtain ⟨q23_3,hq23_3,q⟩ := bE q
    refine EI (.take 0 (.take 1 (.alt 2 (.alt 3 (.take 4 (.take 5 (.take 6 (.take 7 (.alt 8 (.alt 9 (.take 10 (.take 11 .done)) .done) .done))))) (.alt 8 (.alt 3 (.take 4 (.take 5 (.take 6 (.take 7 (.alt 9 (.take 10 (.take 11 .done)) .done))))) .done) .done)) (.alt 8 (.alt 2 (.alt 3 (.take 4 (.take 5 (.take 6 (.take 7 (.alt 9 (.take 10 (.take 11 .done)) .done))))) .done) .done) .done)))) (EI [] (EI [] (AI rfl (AI (AI TV ?_) ?_))))
    ·refine AI TV (OL (AI f156_in (cV (cQ C156 k q23_2 [] false C156_holds hq23_2 rfl rfl (AI rfl (K0 (AI TV (OL (AI f125_in (cV (cQ C125 ((a.1,a.2),q23_2) q23_3 [] false C125_holds hq23_3 rfl rfl (R3 (K0 (AI TV (OL ?_)))))))))))))))
     cases sE q
     refine E4 [(0,some 2),(1,some 3),(2,some 4),(3,some 5)] (R2 (AI (R2 TV) (R4 TV)))
    refine OL (AI f156_in (cV (cQ C156 k q23_2 [] false C156_holds hq23_2 rfl rfl (AI rfl (K0 (AI (AI TV ?_) ?_))))))
    ·refine AI TV (OL (AI f125_in (cV (cQ C125 ((a.1,a.2),q23_2) q23_3 [] false C125_holds hq23_3 rfl rfl (R3 (K0 (AI TV (OL ?_))))))))
     cases sE q
     refine E4 [(0,some 2),(1,some 3),(2,some 4),(3,some 5)] (R2 (AI (R2 TV) (R4 TV)))
    refine OL (AI f125_in (cV (cQ C125 ((a.1,a.2),q23_2) q23_3 [] false C125_holds hq23_3 rfl rfl (R3 (K0 (AI TV (AI TV (OL ?_))))))))
    cases sE q
    refine E4 [(0,some 2),(1,some 6),(2,some 3),(3,some 4)] (R2 (AI (R2 TV) (R4 TV)))
   refine AI (OL (OL ?_)) TV
   cases sE q
   refine E4 [(0,some 0),(1,some 2),(2,some 3)] (R2 (AJ (R3 TV)))
  cases sE q
  refine E4 [(0,some 0),(1,some 2)] (AI rfl (AI (R2 TV) (R2 TV)))
 rcases z10 with z10a | z10b
 ·dsimp only [sumF] at q
  refine AI (OL (OL ?_)) TV
  obtain ⟨r19,hr19,q⟩ := bE q
  refine OL (AI f126_in (cV (cQ C126 ((a.1,a.2),[(List.length a.2:Int)]) r19 [] true C126_holds hr19 rfl rfl (R3 (AI (fun _=>rfl) (R2 (AI TV (AI TV (OL ?_)))))))))
  cases sE q
  refine AI rfl (E4 [(0,some 3),(1,some 4)] (R2 (AJ (R2 TV))))
 dsimp only [sumF] at q
 refine AI ?_ TV
 cases sE q
 refine AI rfl (E4 [(0,some 1),(1,some 2)] (R2 (AJ (R2 TV))))
theorem C109_holds : HP C109 109 := hH Tryz.f109 (by kernel_rfl) rfl (fun x y q=>C109_vc x.1 x.2.1 x.2.2.1 x.2.2.2 y q)
theorem f109_in : InP 109 := inP (by kernel_rfl)
def f70_j1 (t_L : NL) (op:Int) (a:Int) (b:Int) : Option (Sum Unit Unit) :=
 bif (decide (op < (2:Int))) then
 some (Sum.inr ())
 else
 bif (decide (op > (14:Int))) then
 some (Sum.inr ())
 else
 bif (decide (a < (0:Int))) then
 some (Sum.inr ())
 else
 bif (decide (a ≥ (List.length t_L:Int))) then
 some (Sum.inr ())
 else
 bindF (f107 op) fun r3 =>
 bif r3 then
 bif (decide (b < (0:Int))) then
 some (Sum.inr ())
 else
 bif (decide (b ≥ (List.length t_L:Int))) then
 some (Sum.inr ())
 else
 some (Sum.inl ())
 else
 some (Sum.inl ())
def f70_j2 (t_L : NL) (op:Int) (b:Int) : Option (Int×LI×LI) :=
 bindF (f107 op) fun r6 =>
 bif r6 then
 guardF (0 ≤ b ∧ b < (List.length t_L:Int)) <|
 some (b,(((((rd (Ty.z T0) t_L b).2).2).2).2).1,(((((rd (Ty.z T0) t_L b).2).2).2).2).2)
 else
 some ((-1:Int),[],[])
def f70_j3 (op:Int) (k:Int) : Option Int :=
 bindF (f108 op) fun r9 =>
 bif r9 then
 some k
 else
 some (0:Int)
def f70_j4 (t_L : NL) (op:Int) (a:Int) (z5 : Int×LI×LI) (z8:Int) : Option (Int×LI×LI) :=
 guardF (0 ≤ a ∧ a < (List.length t_L:Int)) <|
 bindF (f109 op ((((((rd (Ty.z T0) t_L a).2).2).2).2).1,(((((rd (Ty.z T0) t_L a).2).2).2).2).2) (z5.2.1,z5.2.2) z8) fun q12_12 =>
 some (q12_12.1,q12_12.2.1,q12_12.2.2)
def f70 (t_L : NL) (op:Int) (a:Int) (b:Int) (k:Int) : Option (Int×Int×NL) :=
 bif (decide ((List.length t_L:Int) ≥ (512:Int))) then
 some ((0:Int),(2:Int),t_L)
 else
 bindF (f70_j1 t_L op a b) fun z2 =>
 sumF z2 (fun z2a =>
 bindF (f70_j2 t_L op b) fun z5 =>
 bindF (f70_j3 op k) fun z8 =>
 bindF (f70_j4 t_L op a z5 z8) fun z10 =>
 bif (z10.1 != (0:Int)) then
 some ((0:Int),z10.1,t_L)
 else
 guardF ((List.length t_L + List.length ([(op,a,z5.1,z8,z10.2.1,z10.2.2)])) * 80 ≤ 140737488355328) <|
 some ((i64.wrap ((List.length (t_L ++ ([(op,a,z5.1,z8,z10.2.1,z10.2.2)])):Int) - (1:Int))),(0:Int),(t_L ++ ([(op,a,z5.1,z8,z10.2.1,z10.2.2)])))) (fun z2b =>
 some ((0:Int),(1:Int),t_L))
def C70 : Con where
 X := NL×Int×Int×Int×Int
 Y := Int×Int×NL
 e := 2
 args x := [P0 0 0,.dat T2 x.2.1,.dat T2 x.2.2.1,.dat T2 x.2.2.2.1,.dat T2 x.2.2.2.2]
 hin x := [(0,.cells [(.osl 1)]),(1,.arr 45 T0 x.1)]
 F x := f70 x.1 x.2.1 x.2.2.1 x.2.2.2.1 x.2.2.2.2
 ret y := [.dat T2 y.1,.dat T2 y.2.1]
 hout y := [(0,.cells [(.osl 2)]),(2,.arr 45 T0 y.2.2)]
 nout := 3
theorem C70_vc (t_L : NL) (op:Int) (a:Int) (b:Int) (k:Int) (y : Int×Int×NL) (q : f70 t_L op a b k = some y) : VE Tryz.f70 2 C70 (t_L,op,a,b,k) y := by
 unfold f70 at q
 refine OL (OL (OL (cI q (fun q=>?_) (fun q=>?_))))
 ·cases sE q
  refine OL (AI rfl (E4 [(0,some 0),(2,some 1)] (R3 (AI TV (R2 TV)))))
 obtain ⟨z2,hz2,q⟩ := bE q
 refine OQ ⟨Sum.elim (fun z2a=>[(0,⟨[(0,P0 0 0),(1,.dat T2 op),(2,.dat T2 a),(3,.dat T2 b),(4,.dat T2 k)],[(0,.cells [(.osl 1)]),(1,.arr 45 T0 t_L)],2⟩)]) (fun z2b=>[(1,⟨[(10,D0 0),(11,D0 1)],[(0,.cells [(.osl 1)]),(1,.arr 45 T0 t_L)],2⟩)]) z2,?_,?_⟩
 ·have q := hz2
  clear hz2
  unfold f70_j1 at q
  refine OL (cN q (fun q=>?_) (fun q=>?_))
  ·refine gY (cF (cN q (fun q=>?_) (fun q=>?_)))
   ·refine gY (cF (cN q (fun q=>?_) (fun q=>?_)))
    ·refine gY (gY (gY (gY (gY (gY (cF (cN q (fun q=>?_) (fun q=>?_))))))))
     ·refine gY ?_
      obtain ⟨r3,hr3,q⟩ := bE q
      refine OL (AI f107_in (cV (cQ C107 op r3 [] false C107_holds hr3 rfl rfl (AI rfl (K0 (gY (cI q (fun q=>?_) (fun q=>?_))))))))
      ·refine gX (gX (cN q (fun q=>?_) (fun q=>?_)))
       ·refine gY (gY (gY (gY (gY (gY (gX (cF (gY (cT (cF (cI q (fun q=>?_) (fun q=>?_))))))))))))
        ·cases sE q
         refine OL (E4 I2 (R3 (AI TV (R2 TV))))
        cases sE q
        refine E4 I2 (R5 (AJ (R2 TV)))
       refine gN (gN (gN (gN (gN (gN (gX (cT (gY (cT (cF (cT (OL ?_))))))))))))
       cases sE q
       refine E4 I2 (R3 (AI TV (R2 TV)))
      refine gM (gM (gM (gY (cF (cF (cF ?_))))))
      cases sE q
      refine E4 I2 (R5 (AJ (R2 TV)))
     refine gN (gN (gN (cT (cT (OL ?_)))))
     cases sE q
     refine E4 I2 (R3 (AI TV (R2 TV)))
    refine gN (gN (gN (gN (gN (gN (cT (gN (gN (gN (gN (cT (cT (OL ?_)))))))))))))
    cases sE q
    refine E4 I2 (R3 (AI TV (R2 TV)))
   refine gN (cT (gN (gN (gN (gN (gN (gN (gN (cT (gN (gN (gN (gN (cT (cT (OL ?_))))))))))))))))
   cases sE q
   refine E4 I2 (R3 (AI TV (R2 TV)))
  refine gN (cT (gN (gN (cT (gN (gN (gN (gN (gN (gN (gN (cT (gN (gN (gN (gN (cT (cT (OL ?_)))))))))))))))))))
  cases sE q
  refine E4 I2 (R3 (AI TV (R2 TV)))
 rcases z2 with z2a | z2b
 ·dsimp only [sumF] at q
  refine AI (OL (OL (OL (OL ?_)))) TV
  obtain ⟨z5,hz5,q⟩ := bE q
  refine OQ ⟨[(0,⟨[(0,P0 0 0),(1,.dat T2 op),(2,.dat T2 a),(4,.dat T2 k),(12,P0 2 0),(13,P0 3 0)],[(0,.cells [(.osl 1)]),(1,.arr 45 T0 t_L),(2,.cells [(.d T2 op),(.d T2 a),(.d T2 z5.1),(.d T2 (0:Int)),N0,N0]),(3,.cells [(.d T1 z5.2.1),(.d T1 z5.2.2)])],4⟩)],?_,?_⟩
  ·have q := hz5
   clear hz5
   unfold f70_j2 at q
   refine OL ?_
   obtain ⟨r6,hr6,q⟩ := bE q
   refine OL (AI f107_in (cV (cQ C107 op r6 [] false C107_holds hr6 rfl rfl (AI rfl (K0 (cI q (fun q=>?_) (fun q=>?_)))))))
   ·refine OL (OL (gI q (fun q=>?_)))
    cases sE q
    refine OL (E4 I4 (R4 (AI (R3 TV) (R4 TV))))
   cases sE q
   refine EI [] (EI [] (EI [(3,0,T2),(3,1,T2)] (EI [] (EI I4 (R4 (AI (R3 TV) (R4 TV)))))))
  refine AI ?_ TV
  obtain ⟨z8,hz8,q⟩ := bE q
  refine OQ ⟨[(0,⟨[(0,P0 0 0),(1,.dat T2 op),(2,.dat T2 a),(12,P0 2 0),(13,P0 3 0)],[(0,.cells [(.osl 1)]),(1,.arr 45 T0 t_L),(2,.cells [(.d T2 op),(.d T2 a),(.d T2 z5.1),(.d T2 z8),N0,N0]),(3,.cells [(.d T1 z5.2.1),(.d T1 z5.2.2)])],4⟩)],?_,?_⟩
  ·have q := hz8
   clear hz8
   unfold f70_j3 at q
   refine OL ?_
   obtain ⟨r9,hr9,q⟩ := bE q
   refine OL (AI f108_in (cV (cQ C108 op r9 [] false C108_holds hr9 rfl rfl (AI rfl (K0 (cI q (fun q=>?_) (fun q=>?_)))))))
   ·cases sE q
    refine OL (E4 I4 (R3 (AI (R3 TV) (R4 TV))))
   cases sE q
   refine E4 I4 (R3 (AI (R3 TV) (R4 TV)))
  refine AI ?_ TV
  obtain ⟨z10,hz10,q⟩ := bE q
  refine OQ ⟨[(0,⟨[(0,P0 0 0),(12,P0 2 0),(14,P0 3 0),(15,.dat T2 z10.1)],[(0,.cells [(.osl 1)]),(1,.arr 45 T0 t_L),(2,.cells [(.d T2 op),(.d T2 a),(.d T2 z5.1),(.d T2 z8),N0,N0]),(3,.cells [(.osl 4),(.osl 5)]),(4,.arr 3 T2 z10.2.1),(5,.arr 40 T2 z10.2.2)],6⟩)],?_,?_⟩
  ·have q := hz10
   clear hz10
   unfold f70_j4 at q
   obtain ⟨g12_0,q⟩ := gE q
   obtain ⟨q12_12,hq12_12,q⟩ := bE q
   refine EI (.take 0 (.take 1 (.take 2 (.take 3 (.take 4 (.take 5 (.take 6 (.take 7 (.take 8 (.take 9 (.take 10 (.take 11 (.alt 12 (.take 13 (.take 14 (.take 15 (.alt 16 (.alt 17 (.take 18 .done) .done) .done)))) (.alt 16 (.alt 12 (.take 13 (.take 14 (.take 15 (.alt 17 (.take 18 .done) .done)))) .done) .done)))))))))))))) (EI [] (EI [] (AI rfl (AI g12_0 (AI (AI TV ?_) ?_)))))
   ·refine AI TV (OL (AI f109_in (cV (cQ C109 (op,((((((rd (Ty.z T0) t_L a).2).2).2).2).1,(((((rd (Ty.z T0) t_L a).2).2).2).2).2),(z5.2.1,z5.2.2),z8) q12_12 [] false C109_holds hq12_12 rfl rfl (R6 (K0 (AI TV (OL ?_))))))))
    cases sE q
    refine E4 [(0,some 0),(1,some 1),(2,some 2),(3,some 4),(4,some 5),(5,some 6)] (R2 (AI (R3 TV) (R6 TV)))
   refine OL (AI f109_in (cV (cQ C109 (op,((((((rd (Ty.z T0) t_L a).2).2).2).2).1,(((((rd (Ty.z T0) t_L a).2).2).2).2).2),(z5.2.1,z5.2.2),z8) q12_12 [] false C109_holds hq12_12 rfl rfl (R6 (K0 (AI TV (AI TV (OL ?_))))))))
   cases sE q
   refine E4 [(0,some 0),(1,some 1),(2,some 2),(3,some 6),(4,some 4),(5,some 5)] (R2 (AI (R3 TV) (R6 TV)))
  refine AI (OL (OL (cI q (fun q=>?_) (fun q=>?_)))) TV
  ·cases sE q
   refine OL (AI rfl (E4 [(0,some 0),(2,some 1)] (R3 (AI TV (R2 TV)))))
  refine OL (OL (OL (EI (.take 0 (.take 1 (.take 2 (.take 3 (.take 4 (.take 5 (.alt 6 (.alt 7 (.take 8 (.take 9 (.alt 10 .done .done))) .done) .done))))))) (EI [(10,[0])] (EI [] (AI rfl (AI TV (OL (AI TV (OL (gI q (fun q=>?_))))))))))))
  refine AI TV (OL (OL ?_))
  cases sE q
  refine AI rfl (E4 [(0,some 0),(2,some 7)] (R3 (AI TV (R2 TV))))
 dsimp only [sumF] at q
 refine AI ?_ TV
 cases sE q
 refine AI rfl (E4 [(0,some 0),(2,some 1)] (R3 (AI TV (R2 TV))))
theorem C70_holds : HP C70 70 := hH Tryz.f70 (by kernel_rfl) rfl (fun x y q=>C70_vc x.1 x.2.1 x.2.2.1 x.2.2.2.1 x.2.2.2.2 y q)
theorem f70_in : InP 70 := inP (by kernel_rfl)
end Go.Proofs
