import Derived.Test.YtoicgngppmpapaaGreatGradPartsS0
set_option linter.unusedVariables false
set_option maxRecDepth 100000
set_option maxHeartbeats 8000000
namespace Go.Proofs
open Go.AM
open IntKind (i64 u64 i32 u32 i16 u16 i8 u8)
def f168 (a : LI×LI) : Option (Int×LI×LI) :=
 none
def C168 : Con where
 X := LI×LI
 Y := Int×LI×LI
 e := 0
 args x := [.dat T3 x]
 hin x := []
 F x := f168 x
 ret y := [.raw true [(.osl 0),(.osl 1)],.dat T2 y.1]
 hout y := [(0,.arr 3 T2 y.2.1),(1,.arr 40 T2 y.2.2)]
 nout := 2
theorem C168_vc (a : LI×LI) (y : Int×LI×LI) (q : f168 a = some y) : VC Tryz.f168 C168 a y := by
 unfold f168 at q
 exact nomatch q
theorem C168_holds : HP C168 168 := hH Tryz.f168 (by kernel_rfl) rfl (fun x y q=>C168_vc x y q)
theorem f168_in : InP 168 := inP (by kernel_rfl)
def f218 (v:Int) : Option Int :=
 bif (decide (v < (0:Int))) then
 some (u64.wrap (0 - (u64.wrap v)))
 else
 some (u64.wrap v)
def C218 : Con where
 X := Int
 Y := Int
 e := 0
 args x := [.dat T2 x]
 hin x := []
 F x := f218 x
 ret y := [.dat T4 y]
 hout y := []
 nout := 0
theorem C218_vc (v:Int) (y:Int) (q : f218 v = some y) : VC Tryz.f218 C218 v y := by
 unfold f218 at q
 refine OL (OL (OL (cI q (fun q=>?_) (fun q=>?_))))
 ·cases sE q
  refine OL (AI rfl (E4 [] (R2 (AI TV TV))))
 cases sE q
 refine OL (AI rfl (E4 [] (R2 (AI TV TV))))
theorem C218_holds : HP C218 218 := hH Tryz.f218 (by kernel_rfl) rfl (fun x y q=>C218_vc x y q)
theorem f218_in : InP 218 := inP (by kernel_rfl)
def f244 (a : Int×Int) (b : Int×Int) : Option (Int×Int) :=
 bindF (sub64 a.2 b.2 (0:Int)) fun r1 =>
 bindF (sub64 (u64.wrap a.1) (u64.wrap b.1) r1.2) fun r2 =>
 some ((i64.wrap r2.1),r1.1)
def C244 : Con where
 X := (Int×Int)×(Int×Int)
 Y := Int×Int
 e := 0
 args x := [.dat T5 x.1,.dat T5 x.2]
 hin x := []
 F x := f244 x.1 x.2
 ret y := [.raw true [(.d T2 y.1),(.d T4 y.2)]]
 hout y := []
 nout := 0
theorem C244_vc (a : Int×Int) (b : Int×Int) (y : Int×Int) (q : f244 a b = some y) : VC Tryz.f244 C244 (a,b) y := by
 unfold f244 at q
 refine OL (OL ?_)
 obtain ⟨r1,hr1,q⟩ := bE q
 refine OQ ⟨ext3 sub64,[r1.1,r1.2],sub64_ok,AI (ext3I hr1) ?_⟩
 refine OL ?_
 obtain ⟨r2,hr2,q⟩ := bE q
 refine OQ ⟨ext3 sub64,[r2.1,r2.2],sub64_ok,AI (ext3I hr2) ?_⟩
 refine OL (OL ?_)
 cases sE q
 refine AI rfl (E4 [] (AI rfl (AJ TV)))
theorem C244_holds : HP C244 244 := hH Tryz.f244 (by kernel_rfl) rfl (fun x y q=>C244_vc x.1 x.2 y q)
theorem f244_in : InP 244 := inP (by kernel_rfl)
def f221 (a : Int×Int) : Option (Int×Int) :=
 bindF (f244 ((0:Int),(0:Int)) (a.1,a.2)) fun r1 =>
 some (r1.1,r1.2)
def C221 : Con where
 X := Int×Int
 Y := Int×Int
 e := 0
 args x := [.dat T5 x]
 hin x := []
 F x := f221 x
 ret y := [.raw true [(.d T2 y.1),(.d T4 y.2)]]
 hout y := []
 nout := 0
theorem C221_vc (a : Int×Int) (y : Int×Int) (q : f221 a = some y) : VC Tryz.f221 C221 a y := by
 unfold f221 at q
 refine OL (OL ?_)
 obtain ⟨r1,hr1,q⟩ := bE q
 refine OL (AI f244_in (cV (cQ C244 (((0:Int),(0:Int)),(a.1,a.2)) r1 [] false C244_holds hr1 rfl rfl (R4 (K0 (OL ?_))))))
 cases sE q
 refine AI rfl (E4 [] (AI rfl (AJ TV)))
theorem C221_holds : HP C221 221 := hH Tryz.f221 (by kernel_rfl) rfl (fun x y q=>C221_vc x y q)
theorem f221_in : InP 221 := inP (by kernel_rfl)
def f247 (a:Int) (b:Int) : Option (Int×Int) :=
 bindF (f218 a) fun r1 =>
 bindF (f218 b) fun r2 =>
 bindF (f154 r1 r2) fun r3 =>
 bif (!((decide (a < (0:Int))) == (decide (b < (0:Int))))) then
 bindF (f221 ((i64.wrap r3.1),r3.2)) fun r4 =>
 some (r4.1,r4.2)
 else
 some ((i64.wrap r3.1),r3.2)
def C247 : Con where
 X := Int×Int
 Y := Int×Int
 e := 0
 args x := [.dat T2 x.1,.dat T2 x.2]
 hin x := []
 F x := f247 x.1 x.2
 ret y := [.raw true [(.d T2 y.1),(.d T4 y.2)]]
 hout y := []
 nout := 0
theorem C247_vc (a:Int) (b:Int) (y : Int×Int) (q : f247 a b = some y) : VC Tryz.f247 C247 (a,b) y := by
 unfold f247 at q
 refine OL (OL ?_)
 obtain ⟨r1,hr1,q⟩ := bE q
 refine OL (AI f218_in (cV (cQ C218 a r1 [] false C218_holds hr1 rfl rfl (AI rfl (K0 ?_)))))
 obtain ⟨r2,hr2,q⟩ := bE q
 refine OL (AI f218_in (cV (cQ C218 b r2 [] false C218_holds hr2 rfl rfl (AI rfl (K0 ?_)))))
 obtain ⟨r3,hr3,q⟩ := bE q
 refine OL (AI f154_in (cV (cQ C154 (r1,r2) r3 [] false C154_holds hr3 rfl rfl (R2 (K0 (OL (OL (OL (OL (cI q (fun q=>?_) (fun q=>?_)))))))))))
 ·refine OL ?_
  obtain ⟨r4,hr4,q⟩ := bE q
  refine OL (AI f221_in (cV (cQ C221 ((i64.wrap r3.1),r3.2) r4 [] false C221_holds hr4 rfl rfl (R2 (K0 (OL ?_))))))
  cases sE q
  refine AI rfl (E4 [] (AI rfl (AJ TV)))
 refine OL (OL ?_)
 cases sE q
 refine AI rfl (E4 [] (AI rfl (AJ TV)))
theorem C247_holds : HP C247 247 := hH Tryz.f247 (by kernel_rfl) rfl (fun x y q=>C247_vc x.1 x.2 y q)
theorem f247_in : InP 247 := inP (by kernel_rfl)
def f228 (s_top:Int) (s_low_Hi:Int) (s_low_Lo:Int) (a:Int) (b:Int) : Option (Int×Int×Int) :=
 bindF (f247 a b) fun q4_13 =>
 bindF (add64 s_low_Lo q4_13.2 (0:Int)) fun q1_7 =>
 bindF (add64 (u64.wrap s_low_Hi) (u64.wrap q4_13.1) q1_7.2) fun q2_10 =>
 some ((i64.wrap (s_top + (i64.wrap ((Int.fdiv q4_13.1 (2 ^ min (Int.toNat (63:Int)) i64.bits)) + (i64.wrap q2_10.2))))),(i64.wrap q2_10.1),q1_7.1)
def C228 : Con where
 X := Int×Int×Int×Int×Int
 Y := Int×Int×Int
 e := 1
 args x := [P0 0 0,.dat T2 x.2.2.2.1,.dat T2 x.2.2.2.2]
 hin x := [(0,.cells [(.d T2 x.1),(.d T2 x.2.1),(.d T4 x.2.2.1)])]
 F x := f228 x.1 x.2.1 x.2.2.1 x.2.2.2.1 x.2.2.2.2
 ret y := []
 hout y := [(0,.cells [(.d T2 y.1),(.d T2 y.2.1),(.d T4 y.2.2)])]
 nout := 1
theorem C228_vc (s_top:Int) (s_low_Hi:Int) (s_low_Lo:Int) (a:Int) (b:Int) (y : Int×Int×Int) (q : f228 s_top s_low_Hi s_low_Lo a b = some y) : VE Tryz.f228 1 C228 (s_top,s_low_Hi,s_low_Lo,a,b) y := by
 unfold f228 at q
 refine OL ?_
 obtain ⟨q4_13,hq4_13,q⟩ := bE q
 refine OL (AI f247_in (cV (cQ C247 (a,b) q4_13 [] false C247_holds hq4_13 rfl rfl (R2 (K0 (OL (OL (EI (.take 0 (.take 1 (.take 2 (.take 3 (.take 4 (.take 5 (.take 6 (.alt 7 (.take 8 (.take 9 (.take 10 (.take 11 (.take 12 .done))))) .done)))))))) (EI [] (EI [] (AI rfl (AI TV ?_))))))))))))
 obtain ⟨q1_7,hq1_7,q⟩ := bE q
 refine OQ ⟨ext3 add64,[q1_7.1,q1_7.2],add64_ok,AI (ext3I hq1_7) ?_⟩
 refine OL (EI (.take 0 (.take 1 (.take 2 (.take 3 (.take 4 (.take 5 (.take 6 (.take 7 (.take 8 (.take 9 (.alt 10 (.take 11 (.take 12 (.take 13 (.take 14 (.take 15 .done))))) .done))))))))))) (EI [] (EI [] (AI rfl (AI TV ?_)))))
 obtain ⟨q2_10,hq2_10,q⟩ := bE q
 refine OQ ⟨ext3 add64,[q2_10.1,q2_10.2],add64_ok,AI (ext3I hq2_10) ?_⟩
 refine OL (OL (EI (.take 0 (.take 1 (.take 2 (.take 3 (.take 4 (.take 5 (.take 6 (.take 7 (.take 8 (.take 9 (.take 10 (.take 11 (.take 12 (.alt 13 .done .done)))))))))))))) (EI [(13,[0])] (EI [] (AI rfl (AI (by decide) (AI TV (OL ?_))))))))
 cases sE q
 refine AI rfl (E4 [(0,some 0)] (AI rfl (AI TV (AI rfl TV))))
theorem C228_holds : HP C228 228 := hH Tryz.f228 (by kernel_rfl) rfl (fun x y q=>C228_vc x.1 x.2.1 x.2.2.1 x.2.2.2.1 x.2.2.2.2 y q)
theorem f228_in : InP 228 := inP (by kernel_rfl)
def f257 (a : Int×Int) (n:Int) : Option (Int×Int×Int×Int) :=
 bif (decide (n ≥ (64:Int))) then
 guardF (0 ≤ (i64.wrap (n - (64:Int)))) <|
 guardF (0 ≤ (i64.wrap ((64:Int) - (i64.wrap (n - (64:Int)))))) <|
 guardF (0 ≤ (i64.wrap (n - (64:Int)))) <|
 guardF (0 ≤ (i64.wrap ((64:Int) - (i64.wrap (n - (64:Int)))))) <|
 some ((Int.fdiv a.1 (2 ^ min (Int.toNat (63:Int)) i64.bits)),(u64.wrap (Int.fdiv a.1 (2 ^ min (Int.toNat (i64.wrap (n - (64:Int)))) i64.bits))),(bitsOf IntKind.u64 (fun p q=>p ||| q) (u64.wrap ((u64.wrap a.1) * 2 ^ min (Int.toNat (i64.wrap ((64:Int) - (i64.wrap (n - (64:Int)))))) u64.bits)) (Int.fdiv a.2 (2 ^ min (Int.toNat (i64.wrap (n - (64:Int)))) u64.bits))),(u64.wrap (a.2 * 2 ^ min (Int.toNat (i64.wrap ((64:Int) - (i64.wrap (n - (64:Int)))))) u64.bits)))
 else
 guardF (0 ≤ n) <|
 guardF (0 ≤ (i64.wrap ((64:Int) - n))) <|
 guardF (0 ≤ n) <|
 guardF (0 ≤ (i64.wrap ((64:Int) - n))) <|
 some ((Int.fdiv a.1 (2 ^ min (Int.toNat n) i64.bits)),(bitsOf IntKind.u64 (fun p q=>p ||| q) (u64.wrap ((u64.wrap a.1) * 2 ^ min (Int.toNat (i64.wrap ((64:Int) - n))) u64.bits)) (Int.fdiv a.2 (2 ^ min (Int.toNat n) u64.bits))),(u64.wrap (a.2 * 2 ^ min (Int.toNat (i64.wrap ((64:Int) - n))) u64.bits)),(0:Int))
def C257 : Con where
 X := (Int×Int)×Int
 Y := Int×Int×Int×Int
 e := 0
 args x := [.dat T5 x.1,.dat T2 x.2]
 hin x := []
 F x := f257 x.1 x.2
 ret y := [.raw true [(.d T2 y.1),(.d T4 y.2.1)],.dat T4 y.2.2.1,.dat T4 y.2.2.2]
 hout y := []
 nout := 0
theorem C257_vc (a : Int×Int) (n:Int) (y : Int×Int×Int×Int) (q : f257 a n = some y) : VC Tryz.f257 C257 (a,n) y := by
 unfold f257 at q
 refine OL (OL (EI (.take 0 (.take 1 (.take 2 (.take 3 (.take 4 (.take 5 (.take 6 .done))))))) (EI [] (EI [] (AI rfl (OL (OL (cI q (fun q=>?_) (fun q=>?_)))))))))
 ·refine OL (OL (EI (.take 0 (.take 1 (.take 2 (.take 3 (.take 4 (.take 5 (.take 6 (.take 7 (.take 8 (.alt 9 (.alt 10 .done .done) .done)))))))))) (EI [] (EI [] (AI rfl (AI (by decide) (gI q (fun q=>?_))))))))
  refine AI TV (AI TV (OL (OL (EI (.take 0 (.take 1 (.take 2 (.take 3 (.take 4 (.take 5 (.take 6 (.take 7 (.take 8 (.take 9 (.take 10 (.take 11 (.take 12 (.alt 13 (.take 14 (.take 15 .done)) .done)))))))))))))) (EI [] (EI [] (AI rfl (gI q (fun q=>?_)))))))))
  refine gI q (fun q=>?_)
  refine gI q (fun q=>?_)
  refine AI TV (OL ?_)
  cases sE q
  refine AI rfl (E4 [] (R3 (AJ TV)))
 refine OL (EI (.take 0 (.take 1 (.take 2 (.take 3 (.take 4 (.take 5 (.take 6 (.take 7 (.take 8 (.take 9 (.take 10 (.take 11 (.take 12 (.take 13 (.take 14 (.take 15 (.take 16 (.alt 17 (.take 18 (.take 19 .done)) .done)))))))))))))))))) (EI [] (EI [] (AI rfl (gI q (fun q=>?_))))))
 refine gI q (fun q=>?_)
 refine gI q (fun q=>?_)
 refine gI q (fun q=>?_)
 refine AI TV (OL ?_)
 cases sE q
 refine AI rfl (E4 [] (R3 (AJ TV)))
theorem C257_holds : HP C257 257 := hH Tryz.f257 (by kernel_rfl) rfl (fun x y q=>C257_vc x.1 x.2 y q)
theorem f257_in : InP 257 := inP (by kernel_rfl)
def f84 (n:Int) : Option (Int×Int) :=
 some ((Int.fdiv n (2 ^ min (Int.toNat (63:Int)) i64.bits)),(u64.wrap n))
def C84 : Con where
 X := Int
 Y := Int×Int
 e := 0
 args x := [.dat T2 x]
 hin x := []
 F x := f84 x
 ret y := [.raw true [(.d T2 y.1),(.d T4 y.2)]]
 hout y := []
 nout := 0
theorem C84_vc (n:Int) (y : Int×Int) (q : f84 n = some y) : VC Tryz.f84 C84 n y := by
 unfold f84 at q
 refine OL (OL (AI (by decide) (OL ?_)))
 cases sE q
 refine AI rfl (E4 [] (AI rfl (AJ TV)))
theorem C84_holds : HP C84 84 := hH Tryz.f84 (by kernel_rfl) rfl (fun x y q=>C84_vc x y q)
theorem f84_in : InP 84 := inP (by kernel_rfl)
def f42 (a : Int×Int) (b : Int×Int) : Option (Int×Int) :=
 bindF (add64 a.2 b.2 (0:Int)) fun r1 =>
 bindF (add64 (u64.wrap a.1) (u64.wrap b.1) r1.2) fun r2 =>
 some ((i64.wrap r2.1),r1.1)
def C42 : Con where
 X := (Int×Int)×(Int×Int)
 Y := Int×Int
 e := 0
 args x := [.dat T5 x.1,.dat T5 x.2]
 hin x := []
 F x := f42 x.1 x.2
 ret y := [.raw true [(.d T2 y.1),(.d T4 y.2)]]
 hout y := []
 nout := 0
theorem C42_vc (a : Int×Int) (b : Int×Int) (y : Int×Int) (q : f42 a b = some y) : VC Tryz.f42 C42 (a,b) y := by
 unfold f42 at q
 refine OL (OL ?_)
 obtain ⟨r1,hr1,q⟩ := bE q
 refine OQ ⟨ext3 add64,[r1.1,r1.2],add64_ok,AI (ext3I hr1) ?_⟩
 refine OL ?_
 obtain ⟨r2,hr2,q⟩ := bE q
 refine OQ ⟨ext3 add64,[r2.1,r2.2],add64_ok,AI (ext3I hr2) ?_⟩
 refine OL (OL ?_)
 cases sE q
 refine AI rfl (E4 [] (AI rfl (AJ TV)))
theorem C42_holds : HP C42 42 := hH Tryz.f42 (by kernel_rfl) rfl (fun x y q=>C42_vc x.1 x.2 y q)
theorem f42_in : InP 42 := inP (by kernel_rfl)
def f248_j1 (n:Int) : Option (Sum Unit Unit) :=
 bif (decide (n < (1:Int))) then
 some (Sum.inr ())
 else
 bif (decide (n > (126:Int))) then
 some (Sum.inr ())
 else
 some (Sum.inl ())
def f248_j2 (q5_3 : Int×Int×Int×Int) : Option Bool :=
 bif (decide (q5_3.2.2.1 > (9223372036854775808:Int))) then
 some true
 else
 bif (q5_3.2.2.1 == (9223372036854775808:Int)) then
 bif (decide (q5_3.2.2.2 > (0:Int))) then
 some true
 else
 some ((bitsOf IntKind.u64 (fun p q=>p &&& q) q5_3.2.1 (1:Int)) == (1:Int))
 else
 some false
def f248 (a : Int×Int) (n:Int) : Option (Int×Int) :=
 bindF (f248_j1 n) fun z1 =>
 sumF z1 (fun z1a =>
 bindF (f257 (a.1,a.2) n) fun q5_3 =>
 bindF (f248_j2 q5_3) fun z2 =>
 bif z2 then
 bindF (f84 (1:Int)) fun q5_1 =>
 bindF (f42 (q5_3.1,q5_3.2.1) (q5_1.1,q5_1.2)) fun q5_2 =>
 some (q5_2.1,q5_2.2)
 else
 some (q5_3.1,q5_3.2.1)) (fun z1b =>
 some (a.1,a.2))
def C248 : Con where
 X := (Int×Int)×Int
 Y := Int×Int
 e := 0
 args x := [.dat T5 x.1,.dat T2 x.2]
 hin x := []
 F x := f248 x.1 x.2
 ret y := [.raw true [(.d T2 y.1),(.d T4 y.2)]]
 hout y := []
 nout := 0
theorem C248_vc (a : Int×Int) (n:Int) (y : Int×Int) (q : f248 a n = some y) : VC Tryz.f248 C248 (a,n) y := by
 unfold f248 at q
 refine OL ?_
 obtain ⟨z1,hz1,q⟩ := bE q
 refine OQ ⟨Sum.elim (fun z1a=>[(0,⟨[(1,.dat T2 n),(2,P0 0 0),(4,P0 1 0)],[(0,.cells [(.d T2 a.1),(.d T4 a.2)]),(1,.cells [(.d T2 (0:Int)),(.d T4 (0:Int))])],2⟩)]) (fun z1b=>[(1,⟨[(4,P0 0 0)],[(0,.cells [(.d T2 a.1),(.d T4 a.2)])],1⟩)]) z1,?_,?_⟩
 ·have q := hz1
  clear hz1
  unfold f248_j1 at q
  refine OL (cN q (fun q=>?_) (fun q=>?_))
  ·refine gY (cF (cI q (fun q=>?_) (fun q=>?_)))
   ·refine OL (OL ?_)
    cases sE q
    refine E4 [(0,some 1)] (AI rfl (AJ (AI rfl TV)))
   cases sE q
   refine E4 I2 (R2 (AI (R2 TV) (R2 TV)))
  refine gN (cT (cT (OL (OL ?_))))
  cases sE q
  refine E4 [(0,some 1)] (AI rfl (AJ (AI rfl TV)))
 rcases z1 with z1a | z1b
 ·dsimp only [sumF] at q
  refine AI (OL ?_) TV
  obtain ⟨q5_3,hq5_3,q⟩ := bE q
  refine OL (AI f257_in (cV (cQ C257 ((a.1,a.2),n) q5_3 [] false C257_holds hq5_3 rfl rfl (R3 (K0 (OL (OL ?_)))))))
  obtain ⟨z2,hz2,q⟩ := bE q
  refine OQ ⟨[(0,⟨[(4,P0 0 0),(5,P0 1 0),(37,.dat .bool z2)],[(0,.cells [(.d T2 (0:Int)),(.d T4 (0:Int))]),(1,.cells [(.d T2 q5_3.1),(.d T4 q5_3.2.1)])],2⟩)],?_,?_⟩
  ·have q := hz2
   clear hz2
   unfold f248_j2 at q
   refine cN q (fun q=>?_) (fun q=>?_)
   ·refine gY (gY (cI q (fun q=>?_) (fun q=>?_)))
    ·refine gX (gX (cN q (fun q=>?_) (fun q=>?_)))
     ·refine gY (gY (gY (gX (cF (gY (cT (cF ?_)))))))
      cases sE q
      refine E4 [(0,some 1),(1,some 2)] (R2 (AI (R2 TV) (R2 TV)))
     refine gN (gN (gN (gX (cT (gY (cT (cF ?_)))))))
     cases sE q
     refine E4 [(0,some 1),(1,some 2)] (R2 (AI (R2 TV) (R2 TV)))
    refine gM (gM (gM (gY (cF (cF ?_)))))
    cases sE q
    refine E4 [(0,some 1),(1,some 2)] (R2 (AI (R2 TV) (R2 TV)))
   refine gN (gN (gN (cT ?_)))
   cases sE q
   refine E4 [(0,some 1),(1,some 2)] (R2 (AI (R2 TV) (R2 TV)))
  refine AI (cI q (fun q=>?_) (fun q=>?_)) TV
  ·refine OL (EI (.take 0 (.alt 1 (.alt 2 (.alt 3 .done .done) .done) .done)) (EI [] (EI [] (AI rfl (AI TV ?_)))))
   obtain ⟨q5_1,hq5_1,q⟩ := bE q
   refine OL (AI f84_in (cV (cQ C84 (1:Int) q5_1 [] false C84_holds hq5_1 rfl rfl (AI rfl (K0 (AI TV ?_))))))
   obtain ⟨q5_2,hq5_2,q⟩ := bE q
   refine OL (AI f42_in (cV (cQ C42 ((q5_3.1,q5_3.2.1),(q5_1.1,q5_1.2)) q5_2 [] false C42_holds hq5_2 rfl rfl (R4 (K0 (AI TV (OL ?_)))))))
   cases sE q
   refine AI rfl (E4 [] (AI rfl (AJ TV)))
  refine OL (OL ?_)
  cases sE q
  refine AI rfl (E4 [] (AI rfl (AJ TV)))
 dsimp only [sumF] at q
 refine AI ?_ TV
 cases sE q
 refine AI rfl (E4 [] (AI rfl (AJ TV)))
theorem C248_holds : HP C248 248 := hH Tryz.f248 (by kernel_rfl) rfl (fun x y q=>C248_vc x.1 x.2 y q)
theorem f248_in : InP 248 := inP (by kernel_rfl)
def f220_j3 (a : Int×Int) : Option Bool :=
 bif (decide (a.1 > (0:Int))) then
 some true
 else
 bif (a.1 == (0:Int)) then
 some (decide (a.2 ≥ (9223372036854775808:Int)))
 else
 some false
def f220_j2 (a : Int×Int) : Option (Sum Unit Int) :=
 bindF (f220_j3 a) fun z3 =>
 bif z3 then
 some (Sum.inr (9223372036854775807:Int))
 else
 bif (decide (a.1 < (-1:Int))) then
 some (Sum.inr (-9223372036854775808:Int))
 else
 bif (a.1 == (-1:Int)) then
 bif (decide (a.2 < (9223372036854775808:Int))) then
 some (Sum.inr (-9223372036854775808:Int))
 else
 some (Sum.inl ())
 else
 some (Sum.inl ())
def f220 (a : Int×Int) : Option Int :=
 bindF (f220_j2 a) fun z2 =>
 sumF z2 (fun z2a =>
 some (i64.wrap a.2)) (fun z2b =>
 some z2b)
def C220 : Con where
 X := Int×Int
 Y := Int
 e := 0
 args x := [.dat T5 x]
 hin x := []
 F x := f220 x
 ret y := [.dat T2 y]
 hout y := []
 nout := 0
theorem C220_vc (a : Int×Int) (y:Int) (q : f220 a = some y) : VC Tryz.f220 C220 a y := by
 unfold f220 at q
 refine OL ?_
 obtain ⟨z2,hz2,q⟩ := bE q
 refine OQ ⟨Sum.elim (fun z2a=>[(0,⟨[(1,P0 0 0)],[(0,.cells [(.d T2 a.1),(.d T4 a.2)])],1⟩)]) (fun z2b=>[(1,⟨[(2,.dat T2 z2b)],[],0⟩)]) z2,?_,?_⟩
 ·have q := hz2
  clear hz2
  unfold f220_j2 at q
  obtain ⟨z3,hz3,q⟩ := bE q
  refine OQ ⟨[(0,⟨[(1,P0 0 0),(3,.dat .bool z3)],[(0,.cells [(.d T2 a.1),(.d T4 a.2)])],1⟩)],?_,?_⟩
  ·have q := hz3
   clear hz3
   unfold f220_j3 at q
   refine cN q (fun q=>?_) (fun q=>?_)
   ·refine gY (gY (gY (cI q (fun q=>?_) (fun q=>?_))))
    ·refine gX (gX (gY (cT (cF ?_))))
     cases sE q
     refine E4 [(0,some 0)] (R2 (AJ (AI rfl TV)))
    refine gM (gM (gY (cF (cF ?_))))
    cases sE q
    refine E4 [(0,some 0)] (R2 (AJ (AI rfl TV)))
   refine gN (gN (gN (gN (cT ?_))))
   cases sE q
   refine E4 [(0,some 0)] (R2 (AJ (AI rfl TV)))
  refine AI (cI q (fun q=>?_) (fun q=>?_)) TV
  ·cases sE q
   refine OL (E4 [] (R2 (AI TV TV)))
  refine OL (cN q (fun q=>?_) (fun q=>?_))
  ·refine gY (gY (gY (cI q (fun q=>?_) (fun q=>?_))))
   ·refine gX (gX (gY (cT (cF (cI q (fun q=>?_) (fun q=>?_))))))
    ·cases sE q
     refine OL (E4 [] (R2 (AI TV TV)))
    cases sE q
    refine E4 [(0,some 0)] (AI rfl (AJ (AI rfl TV)))
   refine gM (gM (gY (cF (cF (cF ?_)))))
   cases sE q
   refine E4 [(0,some 0)] (AI rfl (AJ (AI rfl TV)))
  refine gN (gN (gN (gN (cT (cT (OL ?_))))))
  cases sE q
  refine E4 [] (R2 (AI TV TV))
 rcases z2 with z2a | z2b
 ·dsimp only [sumF] at q
  refine AI (OL ?_) TV
  cases sE q
  refine AI rfl (E4 [] (R2 (AI TV TV)))
 dsimp only [sumF] at q
 refine AI ?_ TV
 cases sE q
 refine AI rfl (E4 [] (R2 (AI TV TV)))
theorem C220_holds : HP C220 220 := hH Tryz.f220 (by kernel_rfl) rfl (fun x y q=>C220_vc x y q)
theorem f220_in : InP 220 := inP (by kernel_rfl)
def f229 (s_top:Int) (s_low_Hi:Int) (s_low_Lo:Int) (n:Int) : Option (Int×Int×Int×Int) :=
 bif (s_top == (Int.fdiv s_low_Hi (2 ^ min (Int.toNat (63:Int)) i64.bits))) then
 bindF (f248 (s_low_Hi,s_low_Lo) n) fun q1_11 =>
 bindF (f220 (q1_11.1,q1_11.2)) fun r1 =>
 some (r1,s_top,s_low_Hi,s_low_Lo)
 else
 bif (decide (s_top < (0:Int))) then
 some ((-9223372036854775808:Int),s_top,s_low_Hi,s_low_Lo)
 else
 some ((9223372036854775807:Int),s_top,s_low_Hi,s_low_Lo)
def C229 : Con where
 X := Int×Int×Int×Int
 Y := Int×Int×Int×Int
 e := 1
 args x := [P0 0 0,.dat T2 x.2.2.2]
 hin x := [(0,.cells [(.d T2 x.1),(.d T2 x.2.1),(.d T4 x.2.2.1)])]
 F x := f229 x.1 x.2.1 x.2.2.1 x.2.2.2
 ret y := [.dat T2 y.1]
 hout y := [(0,.cells [(.d T2 y.2.1),(.d T2 y.2.2.1),(.d T4 y.2.2.2)])]
 nout := 1
theorem C229_vc (s_top:Int) (s_low_Hi:Int) (s_low_Lo:Int) (n:Int) (y : Int×Int×Int×Int) (q : f229 s_top s_low_Hi s_low_Lo n = some y) : VE Tryz.f229 1 C229 (s_top,s_low_Hi,s_low_Lo,n) y := by
 unfold f229 at q
 refine OL (OL (OL (EI (.take 0 (.take 1 (.take 2 (.take 3 (.take 4 (.take 5 (.take 6 (.take 7 (.take 8 (.take 9 (.take 10 (.take 11 .done)))))))))))) (EI [] (EI [] (AI rfl (AI (by decide) (cI q (fun q=>?_) (fun q=>?_)))))))))
 ·refine OL ?_
  obtain ⟨q1_11,hq1_11,q⟩ := bE q
  refine OL (AI f248_in (cV (cQ C248 ((s_low_Hi,s_low_Lo),n) q1_11 [] false C248_holds hq1_11 rfl rfl (R3 (K0 ?_)))))
  obtain ⟨r1,hr1,q⟩ := bE q
  refine OL (AI f220_in (cV (cQ C220 (q1_11.1,q1_11.2) r1 [] false C220_holds hr1 rfl rfl (R2 (K0 ?_)))))
  cases sE q
  refine AI rfl (E4 [(0,some 0)] (R2 (AI TV (AI rfl TV))))
 refine OL (cI q (fun q=>?_) (fun q=>?_))
 ·cases sE q
  refine OL (AI rfl (E4 [(0,some 0)] (R2 (AI TV (AI rfl TV)))))
 cases sE q
 refine OL (AI rfl (E4 [(0,some 0)] (R2 (AI TV (AI rfl TV)))))
theorem C229_holds : HP C229 229 := hH Tryz.f229 (by kernel_rfl) rfl (fun x y q=>C229_vc x.1 x.2.1 x.2.2.1 x.2.2.2 y q)
theorem f229_in : InP 229 := inP (by kernel_rfl)
def f199 (a : LI×LI) (b : LI×LI) : Option (Int×LI×LI) :=
 none
def C199 : Con where
 X := (LI×LI)×(LI×LI)
 Y := Int×LI×LI
 e := 0
 args x := [.dat T3 x.1,.dat T3 x.2]
 hin x := []
 F x := f199 x.1 x.2
 ret y := [.raw true [(.osl 0),(.osl 1)],.dat T2 y.1]
 hout y := [(0,.arr 3 T2 y.2.1),(1,.arr 40 T2 y.2.2)]
 nout := 2
theorem C199_vc (a : LI×LI) (b : LI×LI) (y : Int×LI×LI) (q : f199 a b = some y) : VC Tryz.f199 C199 (a,b) y := by
 unfold f199 at q
 exact nomatch q
theorem C199_holds : HP C199 199 := hH Tryz.f199 (by kernel_rfl) rfl (fun x y q=>C199_vc x.1 x.2 y q)
theorem f199_in : InP 199 := inP (by kernel_rfl)
def f224 (step:Int) : Option Bool :=
 bif (decide (step ≥ (1:Int))) then
 some (decide (step ≤ (64:Int)))
 else
 some false
def C224 : Con where
 X := Int
 Y := Bool
 e := 0
 args x := [.dat T2 x]
 hin x := []
 F x := f224 x
 ret y := [.dat .bool y]
 hout y := []
 nout := 0
theorem C224_vc (step:Int) (y : Bool) (q : f224 step = some y) : VC Tryz.f224 C224 step y := by
 unfold f224 at q
 refine OL (OL (cI q (fun q=>?_) (fun q=>?_)))
 ·refine gX (cT ?_)
  cases sE q
  refine AI rfl (E4 [] (R2 (AI TV TV)))
 refine gM (cF ?_)
 cases sE q
 refine AI rfl (E4 [] (R2 (AI TV TV)))
theorem C224_holds : HP C224 224 := hH Tryz.f224 (by kernel_rfl) rfl (fun x y q=>C224_vc x y q)
theorem f224_in : InP 224 := inP (by kernel_rfl)
def f226 (long:Int) (wide:Int) (step:Int) : Option Int :=
 bif (decide (wide > long)) then
 some (0:Int)
 else
 guardF (step ≠ 0) <|
 some (i64.wrap ((i64.wrap (Int.tdiv (i64.wrap (long - wide)) step)) + (1:Int)))
def C226 : Con where
 X := Int×Int×Int
 Y := Int
 e := 0
 args x := [.dat T2 x.1,.dat T2 x.2.1,.dat T2 x.2.2]
 hin x := []
 F x := f226 x.1 x.2.1 x.2.2
 ret y := [.dat T2 y]
 hout y := []
 nout := 0
theorem C226_vc (long:Int) (wide:Int) (step:Int) (y:Int) (q : f226 long wide step = some y) : VC Tryz.f226 C226 (long,wide,step) y := by
 unfold f226 at q
 refine OL (OL (OL (cI q (fun q=>?_) (fun q=>?_))))
 ·cases sE q
  refine OL (AI rfl (E4 [] (R2 (AI TV TV))))
 refine OL (gI q (fun q=>?_))
 cases sE q
 refine AI rfl (E4 [] (R2 (AI TV TV)))
theorem C226_holds : HP C226 226 := hH Tryz.f226 (by kernel_rfl) rfl (fun x y q=>C226_vc x.1 x.2.1 x.2.2 y q)
theorem f226_in : InP 226 := inP (by kernel_rfl)
def f227 (d : LI) : Option (Int×LI×LI) :=
 bindF (f68 d (0:Int)) fun r1 =>
 bif (r1.1 != (0:Int)) then
 some ((2:Int),[],[])
 else
 some ((0:Int),r1.2.1,r1.2.2)
def C227 : Con where
 X := LI
 Y := Int×LI×LI
 e := 0
 args x := [.dat T1 x]
 hin x := []
 F x := f227 x
 ret y := [.raw true [(.osl 0),(.osl 1)],.dat T2 y.1]
 hout y := [(0,.arr 3 T2 y.2.1),(1,.arr 40 T2 y.2.2)]
 nout := 2
theorem C227_vc (d : LI) (y : Int×LI×LI) (q : f227 d = some y) : VC Tryz.f227 C227 d y := by
 unfold f227 at q
 refine OL (OL ?_)
 obtain ⟨r1,hr1,q⟩ := bE q
 refine OL (AI f68_in (cV (cQ C68 (d,(0:Int)) r1 [] false C68_holds hr1 rfl rfl (R2 (K0 (OL (OL (OL (cI q (fun q=>?_) (fun q=>?_))))))))))
 ·refine OL (OL ?_)
  cases sE q
  refine AI rfl (E4 [(0,none),(1,none)] (R2 (AJ (R2 TV))))
 refine OL (OL ?_)
 cases sE q
 refine AI rfl (E4 [(0,some 1),(1,some 2)] (R2 (AJ (R2 TV))))
theorem C227_holds : HP C227 227 := hH Tryz.f227 (by kernel_rfl) rfl (fun x y q=>C227_vc x y q)
theorem f227_in : InP 227 := inP (by kernel_rfl)
def f200_j4 (a : LI×LI) (k : LI×LI) (step:Int) : Option Bool :=
 bindF (f59 (a.1,a.2)) fun r12 =>
 bif (!r12) then
 some true
 else
 bindF (f59 (k.1,k.2)) fun r13 =>
 bif (!r13) then
 some true
 else
 bindF (f224 step) fun r14 =>
 some (!r14)
def f200_j5 (a : LI×LI) (k : LI×LI) : Option Bool :=
 bif ((List.length a.1:Int) != (2:Int)) then
 some true
 else
 bif ((List.length k.1:Int) != (3:Int)) then
 some true
 else
 guardF (0 ≤ (1:Int) ∧ (1:Int) < (List.length k.1:Int)) <|
 guardF (0 ≤ (0:Int) ∧ (0:Int) < (List.length a.1:Int)) <|
 bif ((rd (0:Int) k.1 (1:Int)) != (rd (0:Int) a.1 (0:Int))) then
 some true
 else
 guardF (0 ≤ (2:Int) ∧ (2:Int) < (List.length k.1:Int)) <|
 guardF (0 ≤ (1:Int) ∧ (1:Int) < (List.length a.1:Int)) <|
 some (decide ((rd (0:Int) k.1 (2:Int)) > (rd (0:Int) a.1 (1:Int))))
def f200_j3 (a : LI×LI) (k : LI×LI) (step:Int) : Option (Sum Unit Int) :=
 bindF (f200_j4 a k step) fun z11 =>
 bif z11 then
 some (Sum.inr (1:Int))
 else
 bindF (f200_j5 a k) fun z15 =>
 bif z15 then
 some (Sum.inr (4:Int))
 else
 some (Sum.inl ())
def f200_l18 (a : LI×LI) (k : LI×LI) (step:Int) (q5_14:Int) (v102:Int) (v112:Int) (go : (Int×Int×Int×Int) → Option (Int×Int×Int)) (v116:Int) (c4_0_2:Int) (c4_1_2:Int) (c4_2_2:Int) : Option (Int×Int×Int) :=
 bif (decide (v116 < (rd (0:Int) k.1 (2:Int)))) then
 guardF (0 ≤ (i64.wrap ((i64.wrap ((i64.wrap (v112 * (rd (0:Int) a.1 (1:Int)))) + (i64.wrap ((Int.tmod v102 q5_14) * step)))) + v116)) ∧ (i64.wrap ((i64.wrap ((i64.wrap (v112 * (rd (0:Int) a.1 (1:Int)))) + (i64.wrap ((Int.tmod v102 q5_14) * step)))) + v116)) < (List.length a.2:Int)) <|
 guardF (0 ≤ (i64.wrap ((i64.wrap ((i64.wrap ((i64.wrap ((i64.wrap (Int.tdiv v102 q5_14)) * (rd (0:Int) a.1 (0:Int)))) + v112)) * (rd (0:Int) k.1 (2:Int)))) + v116)) ∧ (i64.wrap ((i64.wrap ((i64.wrap ((i64.wrap ((i64.wrap (Int.tdiv v102 q5_14)) * (rd (0:Int) a.1 (0:Int)))) + v112)) * (rd (0:Int) k.1 (2:Int)))) + v116)) < (List.length k.2:Int)) <|
 bindF (f228 c4_0_2 c4_1_2 c4_2_2 (rd (0:Int) a.2 (i64.wrap ((i64.wrap ((i64.wrap (v112 * (rd (0:Int) a.1 (1:Int)))) + (i64.wrap ((Int.tmod v102 q5_14) * step)))) + v116))) (rd (0:Int) k.2 (i64.wrap ((i64.wrap ((i64.wrap ((i64.wrap ((i64.wrap (Int.tdiv v102 q5_14)) * (rd (0:Int) a.1 (0:Int)))) + v112)) * (rd (0:Int) k.1 (2:Int)))) + v116)))) fun q21_26 =>
 go ((i64.wrap (v116 + (1:Int))),q21_26.1,q21_26.2.1,q21_26.2.2)
 else
 some (c4_0_2,c4_1_2,c4_2_2)
def f200_l17 (a : LI×LI) (k : LI×LI) (step:Int) (q5_14:Int) (v102:Int) (go : (Int×Int×Int×Int) → Option (Int×Int×Int)) (v112:Int) (c4_0:Int) (c4_1:Int) (c4_2:Int) : Option (Int×Int×Int) :=
 bif (decide (v112 < (rd (0:Int) a.1 (0:Int)))) then
 bindF (loopF (fun go x=>f200_l18 a k step q5_14 v102 v112 go x.1 x.2.1 x.2.2.1 x.2.2.2) fuelN ((0:Int),c4_0,c4_1,c4_2)) fun z29 =>
 go ((i64.wrap (v112 + (1:Int))),z29.1,z29.2.1,z29.2.2)
 else
 some (c4_0,c4_1,c4_2)
def f200_l14 (a : LI×LI) (k : LI×LI) (step:Int) (q5_14:Int) (r16 : Int×LI×LI) (go : (Int×LI) → Option LI) (v102:Int) (l5 : LI) : Option LI :=
 bif (decide (v102 < (List.length r16.2.2:Int))) then
 guardF (q5_14 ≠ 0) <|
 guardF (q5_14 ≠ 0) <|
 bindF (loopF (fun go x=>f200_l17 a k step q5_14 v102 go x.1 x.2.1 x.2.2.1 x.2.2.2) fuelN ((0:Int),(0:Int),(0:Int),(0:Int))) fun z28 =>
 bindF (f229 z28.1 z28.2.1 z28.2.2 (32:Int)) fun q24_3 =>
 guardF (0 ≤ v102 ∧ v102 < (List.length l5:Int)) <|
 go ((i64.wrap (v102 + (1:Int))),(List.set l5 (Int.toNat v102) q24_3.1))
 else
 some l5
def f200 (a : LI×LI) (k : LI×LI) (step:Int) : Option (Int×LI×LI) :=
 bindF (f200_j3 a k step) fun z8 =>
 sumF z8 (fun z8a =>
 guardF (0 ≤ (0:Int) ∧ (0:Int) < (List.length a.1:Int)) <|
 guardF (0 ≤ (1:Int) ∧ (1:Int) < (List.length a.1:Int)) <|
 guardF (0 ≤ (2:Int) ∧ (2:Int) < (List.length k.1:Int)) <|
 bindF (f226 (rd (0:Int) a.1 (1:Int)) (rd (0:Int) k.1 (2:Int)) step) fun q5_14 =>
 guardF (0 ≤ (0:Int) ∧ (0:Int) < (List.length k.1:Int)) <|
 bindF (f227 ([(rd (0:Int) k.1 (0:Int)),q5_14])) fun r16 =>
 bif (r16.1 != (0:Int)) then
 some (r16.1,[],[])
 else
 bindF (loopF (fun go x=>f200_l14 a k step q5_14 r16 go x.1 x.2) fuelN ((0:Int),r16.2.2)) fun z25 =>
 some ((0:Int),r16.2.1,z25)) (fun z8b =>
 some (z8b,[],[]))
def C200 : Con where
 X := (LI×LI)×(LI×LI)×Int
 Y := Int×LI×LI
 e := 0
 args x := [.dat T3 x.1,.dat T3 x.2.1,.dat T2 x.2.2]
 hin x := []
 F x := f200 x.1 x.2.1 x.2.2
 ret y := [.raw true [(.osl 0),(.osl 1)],.dat T2 y.1]
 hout y := [(0,.arr 3 T2 y.2.1),(1,.arr 40 T2 y.2.2)]
 nout := 2
theorem C200_vc (a : LI×LI) (k : LI×LI) (step:Int) (y : Int×LI×LI) (q : f200 a k step = some y) : VC Tryz.f200 C200 (a,k,step) y := by
 unfold f200 at q
 refine OL ?_
 obtain ⟨z8,hz8,q⟩ := bE q
 refine OQ ⟨Sum.elim (fun z8a=>[(0,⟨[(2,.dat T2 step),(3,P0 0 0),(4,P0 1 0),(6,P0 2 0)],[(0,.cells [(.d T1 a.1),(.d T1 a.2)]),(1,.cells [(.d T1 k.1),(.d T1 k.2)]),(2,.cells [N0,N0])],3⟩)]) (fun z8b=>[(1,⟨[(6,P0 0 0),(7,.dat T2 z8b)],[(0,.cells [N0,N0])],1⟩)]) z8,?_,?_⟩
 ·have q := hz8
  clear hz8
  unfold f200_j3 at q
  obtain ⟨z11,hz11,q⟩ := bE q
  refine OQ ⟨[(0,⟨[(2,.dat T2 step),(3,P0 0 0),(4,P0 1 0),(6,P0 2 0),(20,.dat .bool z11)],[(0,.cells [(.d T1 a.1),(.d T1 a.2)]),(1,.cells [(.d T1 k.1),(.d T1 k.2)]),(2,.cells [N0,N0])],3⟩)],?_,?_⟩
  ·have q := hz11
   clear hz11
   unfold f200_j4 at q
   obtain ⟨r12,hr12,q⟩ := bE q
   refine OL (AI f59_in (cV (cQ C59 (a.1,a.2) r12 [] false C59_holds hr12 rfl rfl (R2 (K0 (cN q (fun q=>?_) (fun q=>?_)))))))
   ·refine gY ?_
    obtain ⟨r13,hr13,q⟩ := bE q
    refine OL (AI f59_in (cV (cQ C59 (k.1,k.2) r13 [] false C59_holds hr13 rfl rfl (R2 (K0 (gY (cF (cN q (fun q=>?_) (fun q=>?_)))))))))
    ·refine gY ?_
     obtain ⟨r14,hr14,q⟩ := bE q
     refine OL (AI f224_in (cV (cQ C224 step r14 [] false C224_holds hr14 rfl rfl (AI rfl (K0 (gY (cF ?_)))))))
     cases sE q
     refine E4 I3 (R3 (AI (R3 TV) (R3 TV)))
    refine gN (gN (cT ?_))
    cases sE q
    refine E4 I3 (R3 (AI (R3 TV) (R3 TV)))
   refine gN (gN (cT (gN (gN (gN (cT ?_))))))
   cases sE q
   refine E4 I3 (R3 (AI (R3 TV) (R3 TV)))
  refine AI (cI q (fun q=>?_) (fun q=>?_)) TV
  ·refine OL (OL ?_)
   cases sE q
   refine E4 [(0,some 2)] (R2 (AJ (AI rfl TV)))
  obtain ⟨z15,hz15,q⟩ := bE q
  refine OQ ⟨[(0,⟨[(2,.dat T2 step),(3,P0 0 0),(4,P0 1 0),(6,P0 2 0),(35,.dat .bool z15)],[(0,.cells [(.d T1 a.1),(.d T1 a.2)]),(1,.cells [(.d T1 k.1),(.d T1 k.2)]),(2,.cells [N0,N0])],3⟩)],?_,?_⟩
  ·have q := hz15
   clear hz15
   unfold f200_j5 at q
   refine EI (.take 0 (.take 1 (.take 2 (.take 3 (.take 4 (.take 5 (.take 6 (.take 7 (.take 8 (.take 9 (.take 10 (.take 11 (.take 12 (.take 13 (.take 14 (.take 15 (.take 16 (.take 17 (.take 18 (.take 19 (.take 20 (.take 21 (.take 22 (.take 23 (.take 24 (.take 25 (.take 26 (.take 27 (.take 28 (.take 29 (.take 30 (.take 31 (.take 32 .done))))))))))))))))))))))))))))))))) (EI [] (EI [] (AI rfl (cN q (fun q=>?_) (fun q=>?_)))))
   ·refine gY (gY (gY (cF (cN q (fun q=>?_) (fun q=>?_)))))
    ·refine gY (gY (gI q (fun q=>?_)))
     refine gY (gY (gY (gY (gI q (fun q=>?_)))))
     refine gY (gY (cF (cN q (fun q=>?_) (fun q=>?_))))
     ·refine gY (gY (gI q (fun q=>?_)))
      refine gY (gY (gY (gY (gI q (fun q=>?_)))))
      refine gY (gY (cF ?_))
      cases sE q
      refine E4 I3 (R3 (AI (R3 TV) (R3 TV)))
     refine gN (gN (gN (gN (gN (gN (gN (gN (cT ?_))))))))
     cases sE q
     refine E4 I3 (R3 (AI (R3 TV) (R3 TV)))
    refine gN (gN (gN (gN (gN (gN (gN (gN (cT (gN (gN (gN (gN (gN (gN (gN (gN (gN (cT ?_))))))))))))))))))
    cases sE q
    refine E4 I3 (R3 (AI (R3 TV) (R3 TV)))
   refine gN (gN (gN (cT (gN (gN (gN (gN (gN (gN (gN (gN (gN (cT (gN (gN (gN (gN (gN (gN (gN (gN (gN (cT ?_)))))))))))))))))))))))
   cases sE q
   refine E4 I3 (R3 (AI (R3 TV) (R3 TV)))
  refine AI (cI q (fun q=>?_) (fun q=>?_)) TV
  ·refine OL (OL ?_)
   cases sE q
   refine E4 [(0,some 2)] (R2 (AJ (AI rfl TV)))
  cases sE q
  refine E4 I3 (R2 (AI (R3 TV) (R3 TV)))
 rcases z8 with z8a | z8b
 ·dsimp only [sumF] at q
  refine AI (OL (EI (.take 0 (.take 1 (.take 2 (.take 3 (.take 4 (.take 5 (.take 6 (.take 7 (.take 8 (.take 9 (.take 10 (.take 11 (.take 12 (.take 13 (.take 14 .done))))))))))))))) (EI [] (EI [] (AI rfl (gI q (fun q=>?_))))))) TV
  refine gI q (fun q=>?_)
  refine gI q (fun q=>?_)
  refine OL ?_
  obtain ⟨q5_14,hq5_14,q⟩ := bE q
  refine OL (AI f226_in (cV (cQ C226 ((rd (0:Int) a.1 (1:Int)),(rd (0:Int) k.1 (2:Int)),step) q5_14 [] false C226_holds hq5_14 rfl rfl (R3 (K0 (OL (gI q (fun q=>?_))))))))
  refine OL ?_
  obtain ⟨r16,hr16,q⟩ := bE q
  refine OL (AI f227_in (cV (cQ C227 [(rd (0:Int) k.1 (0:Int)),q5_14] r16 [] true C227_holds hr16 rfl rfl (AI rfl (AI (fun _=>rfl) (R2 (AI TV (AI TV (OL (OL (OL (cI q (fun q=>?_) (fun q=>?_)))))))))))))
  ·refine OL (OL ?_)
   cases sE q
   refine AI rfl (E4 [(0,none),(1,none)] (R2 (AJ (R2 TV))))
  refine OL (OL ?_)
  obtain ⟨z25,hz25,q⟩ := bE q
  refine lI (Int×LI) LI (fun x=>⟨[(2,.dat T2 step),(3,P0 0 0),(4,P0 1 0),(6,P0 2 0),(8,.dat T2 (rd (0:Int) a.1 (0:Int))),(9,.dat T2 (rd (0:Int) a.1 (1:Int))),(10,.dat T2 (rd (0:Int) k.1 (2:Int))),(11,.dat T2 q5_14),(12,P0 3 0),(101,.dat T2 (List.length r16.2.2:Int)),(102,.dat T2 x.1)],[(0,.cells [(.d T1 a.1),(.d T1 a.2)]),(1,.cells [(.d T1 k.1),(.d T1 k.2)]),(2,.cells [N0,N0]),(3,.cells [(.osl 4),(.osl 5)]),(4,.arr 3 T2 r16.2.1),(5,.arr 40 T2 x.2)],6⟩) (fun z=>[(3,⟨[(6,P0 0 0),(12,P0 1 0)],[(0,.cells [N0,N0]),(1,.cells [(.osl 2),(.osl 3)]),(2,.arr 3 T2 r16.2.1),(3,.arr 40 T2 z)],4⟩)]) (loopF (fun go x=>f200_l14 a k step q5_14 r16 go x.1 x.2)) fuelN ((0:Int),r16.2.2) z25 (AI hz25 (AI (E4 [(0,some 0),(1,some 1),(2,some 2),(3,some 6),(4,some 4),(5,some 5)] (R8 (AI (R4 TV) (R6 TV)))) (AI (fun _ _ h=>lZ h) (AI (fun m=>curI (fun v102=>fun l5 z q=>?_)) ?_))))
  ·have q : f200_l14 a k step q5_14 r16 (loopF (fun go x=>f200_l14 a k step q5_14 r16 go x.1 x.2) m) v102 l5 = some z := q
   unfold f200_l14 at q
   refine OL (OL (cI q (fun q=>?_) (fun q=>?_)))
   ·refine OL (OL (OL (EI (.take 0 (.take 1 (.take 2 (.take 3 (.take 4 (.take 5 (.take 6 (.take 7 .done)))))))) (EI [] (EI [] (AI rfl (gI q (fun q=>?_))))))))
    refine gI q (fun q=>?_)
    refine OL (OL (OL ?_))
    obtain ⟨z28,hz28,q⟩ := bE q
    refine lI (Int×Int×Int×Int) (Int×Int×Int) (fun x=>⟨[(2,.dat T2 step),(3,P0 0 0),(4,P0 1 0),(6,P0 2 0),(8,.dat T2 (rd (0:Int) a.1 (0:Int))),(9,.dat T2 (rd (0:Int) a.1 (1:Int))),(10,.dat T2 (rd (0:Int) k.1 (2:Int))),(11,.dat T2 q5_14),(12,P0 3 0),(14,.dat T2 v102),(15,.dat T2 (i64.wrap (Int.tdiv v102 q5_14))),(16,.dat T2 (Int.tmod v102 q5_14)),(17,P0 4 0),(101,.dat T2 (List.length r16.2.2:Int)),(102,.dat T2 v102),(111,.dat T2 (rd (0:Int) a.1 (0:Int))),(112,.dat T2 x.1)],[(0,.cells [(.d T1 a.1),(.d T1 a.2)]),(1,.cells [(.d T1 k.1),(.d T1 k.2)]),(2,.cells [N0,N0]),(3,.cells [(.osl 5),(.osl 6)]),(4,.cells [(.d T2 x.2.1),(.d T2 x.2.2.1),(.d T4 x.2.2.2)]),(5,.arr 3 T2 r16.2.1),(6,.arr 40 T2 l5)],7⟩) (fun z=>[(5,⟨[(2,.dat T2 step),(3,P0 0 0),(4,P0 1 0),(6,P0 2 0),(8,.dat T2 (rd (0:Int) a.1 (0:Int))),(9,.dat T2 (rd (0:Int) a.1 (1:Int))),(10,.dat T2 (rd (0:Int) k.1 (2:Int))),(11,.dat T2 q5_14),(12,P0 3 0),(14,.dat T2 v102),(17,P0 4 0),(101,.dat T2 (List.length r16.2.2:Int)),(102,.dat T2 v102)],[(0,.cells [(.d T1 a.1),(.d T1 a.2)]),(1,.cells [(.d T1 k.1),(.d T1 k.2)]),(2,.cells [N0,N0]),(3,.cells [(.osl 5),(.osl 6)]),(4,.cells [(.d T2 z.1),(.d T2 z.2.1),(.d T4 z.2.2)]),(5,.arr 3 T2 r16.2.1),(6,.arr 40 T2 l5)],7⟩)]) (loopF (fun go x=>f200_l17 a k step q5_14 v102 go x.1 x.2.1 x.2.2.1 x.2.2.2)) fuelN ((0:Int),(0:Int),(0:Int),(0:Int)) z28 (AI hz28 (AI (E4 [(0,some 0),(1,some 1),(2,some 2),(3,some 3),(4,some 6),(5,some 4),(6,some 5)] (R13 (AI (R5 TV) (R7 TV)))) (AI (fun _ _ h=>lZ h) (AI (fun m=>curI (fun v112=>curI (fun c4_0=>curI (fun c4_1=>fun c4_2 z q=>?_)))) ?_))))
    ·have q : f200_l17 a k step q5_14 v102 (loopF (fun go x=>f200_l17 a k step q5_14 v102 go x.1 x.2.1 x.2.2.1 x.2.2.2) m) v112 c4_0 c4_1 c4_2 = some z := q
     unfold f200_l17 at q
     refine OL (OL (cI q (fun q=>?_) (fun q=>?_)))
     ·refine OL (OL (OL ?_))
      obtain ⟨z29,hz29,q⟩ := bE q
      refine lI (Int×Int×Int×Int) (Int×Int×Int) (fun x=>⟨[(2,.dat T2 step),(3,P0 0 0),(4,P0 1 0),(6,P0 2 0),(8,.dat T2 (rd (0:Int) a.1 (0:Int))),(9,.dat T2 (rd (0:Int) a.1 (1:Int))),(10,.dat T2 (rd (0:Int) k.1 (2:Int))),(11,.dat T2 q5_14),(12,P0 3 0),(14,.dat T2 v102),(15,.dat T2 (i64.wrap (Int.tdiv v102 q5_14))),(16,.dat T2 (Int.tmod v102 q5_14)),(17,P0 4 0),(18,.dat T2 v112),(101,.dat T2 (List.length r16.2.2:Int)),(102,.dat T2 v102),(111,.dat T2 (rd (0:Int) a.1 (0:Int))),(112,.dat T2 v112),(115,.dat T2 (rd (0:Int) k.1 (2:Int))),(116,.dat T2 x.1)],[(0,.cells [(.d T1 a.1),(.d T1 a.2)]),(1,.cells [(.d T1 k.1),(.d T1 k.2)]),(2,.cells [N0,N0]),(3,.cells [(.osl 5),(.osl 6)]),(4,.cells [(.d T2 x.2.1),(.d T2 x.2.2.1),(.d T4 x.2.2.2)]),(5,.arr 3 T2 r16.2.1),(6,.arr 40 T2 l5)],7⟩) (fun z=>[(7,⟨[(2,.dat T2 step),(3,P0 0 0),(4,P0 1 0),(6,P0 2 0),(8,.dat T2 (rd (0:Int) a.1 (0:Int))),(9,.dat T2 (rd (0:Int) a.1 (1:Int))),(10,.dat T2 (rd (0:Int) k.1 (2:Int))),(11,.dat T2 q5_14),(12,P0 3 0),(14,.dat T2 v102),(15,.dat T2 (i64.wrap (Int.tdiv v102 q5_14))),(16,.dat T2 (Int.tmod v102 q5_14)),(17,P0 4 0),(101,.dat T2 (List.length r16.2.2:Int)),(102,.dat T2 v102),(111,.dat T2 (rd (0:Int) a.1 (0:Int))),(112,.dat T2 v112)],[(0,.cells [(.d T1 a.1),(.d T1 a.2)]),(1,.cells [(.d T1 k.1),(.d T1 k.2)]),(2,.cells [N0,N0]),(3,.cells [(.osl 5),(.osl 6)]),(4,.cells [(.d T2 z.1),(.d T2 z.2.1),(.d T4 z.2.2)]),(5,.arr 3 T2 r16.2.1),(6,.arr 40 T2 l5)],7⟩)]) (loopF (fun go x=>f200_l18 a k step q5_14 v102 v112 go x.1 x.2.1 x.2.2.1 x.2.2.2)) fuelN ((0:Int),c4_0,c4_1,c4_2) z29 (AI hz29 (AI (E4 I7 (R16 (AI (R5 TV) (R7 TV)))) (AI (fun _ _ h=>lZ h) (AI (fun m=>curI (fun v116=>curI (fun c4_0_2=>curI (fun c4_1_2=>fun c4_2_2 z q=>?_)))) ?_))))
      ·have q : f200_l18 a k step q5_14 v102 v112 (loopF (fun go x=>f200_l18 a k step q5_14 v102 v112 go x.1 x.2.1 x.2.2.1 x.2.2.2) m) v116 c4_0_2 c4_1_2 c4_2_2 = some z := q
       unfold f200_l18 at q
       refine OL (OL (cI q (fun q=>?_) (fun q=>?_)))
       ·refine OL (OL (EI (.take 0 (.take 1 (.take 2 (.take 3 (.take 4 (.take 5 (.take 6 (.take 7 (.take 8 (.take 9 (.take 10 (.take 11 (.take 12 (.take 13 (.take 14 (.take 15 (.take 16 (.take 17 (.take 18 (.take 19 (.take 20 (.take 21 (.take 22 (.take 23 (.take 24 (.take 25 (.alt 26 .done .done))))))))))))))))))))))))))) (EI [] (EI [] (AI rfl (gI q (fun q=>?_)))))))
        refine gI q (fun q=>?_)
        refine AI TV ?_
        obtain ⟨q21_26,hq21_26,q⟩ := bE q
        refine OL (AI f228_in (cV (cQ C228 (c4_0_2,c4_1_2,c4_2_2,(rd (0:Int) a.2 (i64.wrap ((i64.wrap ((i64.wrap (v112 * (rd (0:Int) a.1 (1:Int)))) + (i64.wrap ((Int.tmod v102 q5_14) * step)))) + v116))),(rd (0:Int) k.2 (i64.wrap ((i64.wrap ((i64.wrap ((i64.wrap ((i64.wrap (Int.tdiv v102 q5_14)) * (rd (0:Int) a.1 (0:Int)))) + v112)) * (rd (0:Int) k.1 (2:Int)))) + v116)))) q21_26 [(0,some 4)] false C228_holds hq21_26 rfl rfl (R2 (AI NH (R2 (AJ (AJ (EI ((i64.wrap (v116 + (1:Int))),q21_26.1,q21_26.2.1,q21_26.2.2) (AI q (E4 I7 (R16 (AI (R5 TV) (R7 TV))))))))))))))
       cases sE q
       refine E4 I7 (R13 (AI (R5 TV) (R7 TV)))
      refine AI (EI ((i64.wrap (v112 + (1:Int))),z29.1,z29.2.1,z29.2.2) (AI q (E4 I7 (R13 (AI (R5 TV) (R7 TV)))))) TV
     cases sE q
     refine E4 I7 (R9 (AI (R5 TV) (R7 TV)))
    refine AI (EI (.take 0 (.take 1 (.take 2 (.alt 3 (.take 4 (.alt 5 .done .done)) .done)))) (EI [] (EI [] (AI rfl (AI TV ?_))))) TV
    obtain ⟨q24_3,hq24_3,q⟩ := bE q
    refine OL (AI f229_in (cV (cQ C229 (z28.1,z28.2.1,z28.2.2,(32:Int)) q24_3 [(0,some 4)] false C229_holds hq24_3 rfl rfl (AI rfl (AI NH (R2 (AJ (AJ (gI q (fun q=>?_))))))))))
    refine AI TV (OL (EI ((i64.wrap (v102 + (1:Int))),(List.set l5 (Int.toNat v102) q24_3.1)) (AI q (E4 [(0,some 0),(1,some 1),(2,some 2),(3,some 3),(4,some 5),(5,some 6)] (R8 (AI (R4 TV) (R6 TV)))))))
   cases sE q
   refine E4 [(0,some 2),(1,some 3),(2,some 4),(3,some 5)] (AI rfl (AI (R2 TV) (R4 TV)))
  refine AI (OL (OL ?_)) TV
  cases sE q
  refine AI rfl (E4 [(0,some 2),(1,some 3)] (R2 (AJ (R2 TV))))
 dsimp only [sumF] at q
 refine AI ?_ TV
 cases sE q
 refine AI rfl (E4 [(0,none),(1,none)] (R2 (AJ (R2 TV))))
theorem C200_holds : HP C200 200 := hH Tryz.f200 (by kernel_rfl) rfl (fun x y q=>C200_vc x.1 x.2.1 x.2.2 y q)
theorem f200_in : InP 200 := inP (by kernel_rfl)
def f151 (op:Int) (a : LI×LI) (b : LI×LI) (k:Int) : Option (Int×LI×LI) :=
 bif (op == (2:Int)) then
 bindF (f113 (a.1,a.2) (b.1,b.2)) fun r1 =>
 some (r1.1,r1.2.1,r1.2.2)
 else
 bif (op == (3:Int)) then
 bindF (f198 (a.1,a.2) (b.1,b.2)) fun r2 =>
 some (r2.1,r2.2.1,r2.2.2)
 else
 bif (op == (4:Int)) then
 bindF (f164 (a.1,a.2) (b.1,b.2)) fun r3 =>
 some (r3.1,r3.2.1,r3.2.2)
 else
 bif (op == (6:Int)) then
 bindF (f199 (a.1,a.2) (b.1,b.2)) fun r4 =>
 some (r4.1,r4.2.1,r4.2.2)
 else
 bindF (f200 (a.1,a.2) (b.1,b.2) k) fun r5 =>
 some (r5.1,r5.2.1,r5.2.2)
def C151 : Con where
 X := Int×(LI×LI)×(LI×LI)×Int
 Y := Int×LI×LI
 e := 0
 args x := [.dat T2 x.1,.dat T3 x.2.1,.dat T3 x.2.2.1,.dat T2 x.2.2.2]
 hin x := []
 F x := f151 x.1 x.2.1 x.2.2.1 x.2.2.2
 ret y := [.raw true [(.osl 0),(.osl 1)],.dat T2 y.1]
 hout y := [(0,.arr 3 T2 y.2.1),(1,.arr 40 T2 y.2.2)]
 nout := 2
theorem C151_vc (op:Int) (a : LI×LI) (b : LI×LI) (k:Int) (y : Int×LI×LI) (q : f151 op a b k = some y) : VC Tryz.f151 C151 (op,a,b,k) y := by
 unfold f151 at q
 refine OL (OL (OL (OL (cI q (fun q=>?_) (fun q=>?_)))))
 ·refine OL ?_
  obtain ⟨r1,hr1,q⟩ := bE q
  refine OL (AI f113_in (cV (cQ C113 ((a.1,a.2),(b.1,b.2)) r1 [] false C113_holds hr1 rfl rfl (R4 (K0 (OL ?_))))))
  cases sE q
  refine AI rfl (E4 [(0,some 3),(1,some 4)] (R2 (AJ (R2 TV))))
 refine OL (cI q (fun q=>?_) (fun q=>?_))
 ·refine OL ?_
  obtain ⟨r2,hr2,q⟩ := bE q
  refine OL (AI f198_in (cV (cQ C198 ((a.1,a.2),(b.1,b.2)) r2 [] false C198_holds hr2 rfl rfl (R4 (K0 (OL ?_))))))
  cases sE q
  refine AI rfl (E4 [(0,some 3),(1,some 4)] (R2 (AJ (R2 TV))))
 refine OL (cI q (fun q=>?_) (fun q=>?_))
 ·refine OL ?_
  obtain ⟨r3,hr3,q⟩ := bE q
  refine OL (AI f164_in (cV (cQ C164 ((a.1,a.2),(b.1,b.2)) r3 [] false C164_holds hr3 rfl rfl (R4 (K0 (OL ?_))))))
  cases sE q
  refine AI rfl (E4 [(0,some 3),(1,some 4)] (R2 (AJ (R2 TV))))
 refine OL (cI q (fun q=>?_) (fun q=>?_))
 ·refine OL ?_
  obtain ⟨r4,hr4,q⟩ := bE q
  refine OL (AI f199_in (cV (cQ C199 ((a.1,a.2),(b.1,b.2)) r4 [] false C199_holds hr4 rfl rfl (R4 (K0 (OL ?_))))))
  cases sE q
  refine AI rfl (E4 [(0,some 3),(1,some 4)] (R2 (AJ (R2 TV))))
 refine OL ?_
 obtain ⟨r5,hr5,q⟩ := bE q
 refine OL (AI f200_in (cV (cQ C200 ((a.1,a.2),(b.1,b.2),k) r5 [] false C200_holds hr5 rfl rfl (R5 (K0 (OL ?_))))))
 cases sE q
 refine AI rfl (E4 [(0,some 3),(1,some 4)] (R2 (AJ (R2 TV))))
theorem C151_holds : HP C151 151 := hH Tryz.f151 (by kernel_rfl) rfl (fun x y q=>C151_vc x.1 x.2.1 x.2.2.1 x.2.2.2 y q)
theorem f151_in : InP 151 := inP (by kernel_rfl)
def f166_l1 (k:Int) (r1 : LI×LI) (go : (Int×LI) → Option LI) (v18:Int) (l2 : LI) : Option LI :=
 bif (decide (v18 < (List.length r1.2:Int))) then
 guardF (0 ≤ v18 ∧ v18 < (List.length l2:Int)) <|
 bindF (f144 (rd (0:Int) l2 v18) k) fun q7_5 =>
 guardF (0 ≤ v18 ∧ v18 < (List.length l2:Int)) <|
 go ((i64.wrap (v18 + (1:Int))),(List.set l2 (Int.toNat v18) q7_5))
 else
 some l2
def f166 (a : LI×LI) (k:Int) : Option (Int×LI×LI) :=
 bindF (f59 (a.1,a.2)) fun q7_7 =>
 bif (!q7_7) then
 some ((1:Int),[],[])
 else
 bindF (f61 (a.1,a.2)) fun r1 =>
 bindF (loopF (fun go x=>f166_l1 k r1 go x.1 x.2) fuelN ((0:Int),r1.2)) fun z2 =>
 some ((0:Int),r1.1,z2)
def C166 : Con where
 X := (LI×LI)×Int
 Y := Int×LI×LI
 e := 0
 args x := [.dat T3 x.1,.dat T2 x.2]
 hin x := []
 F x := f166 x.1 x.2
 ret y := [.raw true [(.osl 0),(.osl 1)],.dat T2 y.1]
 hout y := [(0,.arr 3 T2 y.2.1),(1,.arr 40 T2 y.2.2)]
 nout := 2
theorem C166_vc (a : LI×LI) (k:Int) (y : Int×LI×LI) (q : f166 a k = some y) : VC Tryz.f166 C166 (a,k) y := by
 unfold f166 at q
 refine OL (OL (OL ?_))
 obtain ⟨q7_7,hq7_7,q⟩ := bE q
 refine OL (AI f59_in (cV (cQ C59 (a.1,a.2) q7_7 [] false C59_holds hq7_7 rfl rfl (R2 (K0 (cI q (fun q=>?_) (fun q=>?_)))))))
 ·refine OL (OL ?_)
  cases sE q
  refine AI rfl (E4 [(0,none),(1,none)] (R2 (AJ (R2 TV))))
 refine OL ?_
 obtain ⟨r1,hr1,q⟩ := bE q
 refine OL (AI f61_in (cV (cQ C61 (a.1,a.2) r1 [] false C61_holds hr1 rfl rfl (R2 (K0 (OL (OL (OL ?_))))))))
 obtain ⟨z2,hz2,q⟩ := bE q
 refine lI (Int×LI) LI (fun x=>⟨[(1,.dat T2 k),(4,P0 0 0),(6,P0 1 0),(16,O0 2),(17,.dat T2 (List.length r1.2:Int)),(18,.dat T2 x.1)],[(0,.cells [N0,N0]),(1,.cells [(.osl 3),(.osl 2)]),(2,.arr 40 T2 x.2),(3,.arr 3 T2 r1.1)],4⟩) (fun z=>[(2,⟨[(4,P0 0 0),(6,P0 1 0)],[(0,.cells [N0,N0]),(1,.cells [(.osl 2),(.osl 3)]),(2,.arr 3 T2 r1.1),(3,.arr 40 T2 z)],4⟩)]) (loopF (fun go x=>f166_l1 k r1 go x.1 x.2)) fuelN ((0:Int),r1.2) z2 (AI hz2 (AI (E4 [(0,some 1),(1,some 4),(2,some 3),(3,some 2)] (R4 (AI (R3 TV) (R4 TV)))) (AI (fun _ _ h=>lZ h) (AI (fun m=>curI (fun v18=>fun l2 z q=>?_)) ?_))))
 ·have q : f166_l1 k r1 (loopF (fun go x=>f166_l1 k r1 go x.1 x.2) m) v18 l2 = some z := q
  unfold f166_l1 at q
  refine OL (OL (cI q (fun q=>?_) (fun q=>?_)))
  ·refine OL (OL (gI q (fun q=>?_)))
   refine EI (.take 0 (.take 1 (.take 2 (.take 3 (.take 4 (.alt 5 (.take 6 (.alt 7 .done .done)) .done)))))) (EI [] (EI [] (AI rfl (AI TV ?_))))
   obtain ⟨q7_5,hq7_5,q⟩ := bE q
   refine OL (AI f144_in (cV (cQ C144 ((rd (0:Int) l2 v18),k) q7_5 [] false C144_holds hq7_5 rfl rfl (R2 (K0 (gI q (fun q=>?_)))))))
   refine AI TV (OL (EI ((i64.wrap (v18 + (1:Int))),(List.set l2 (Int.toNat v18) q7_5)) (AI q (E4 I4 (R4 (AI (R3 TV) (R4 TV)))))))
  cases sE q
  refine E4 [(0,some 0),(1,some 1),(2,some 3),(3,some 2)] (AI rfl (AI (R2 TV) (R4 TV)))
 refine AI (OL (OL ?_)) TV
 cases sE q
 refine AI rfl (E4 [(0,some 2),(1,some 3)] (R2 (AJ (R2 TV))))
theorem C166_holds : HP C166 166 := hH Tryz.f166 (by kernel_rfl) rfl (fun x y q=>C166_vc x.1 x.2 y q)
theorem f166_in : InP 166 := inP (by kernel_rfl)
def f201_j3 (a : LI×LI) (side:Int) : Option Bool :=
 bindF (f59 (a.1,a.2)) fun r6 =>
 bif (!r6) then
 some true
 else
 bif (decide (side < (0:Int))) then
 some true
 else
 some (decide (side ≥ (List.length a.1:Int)))
def f201_j2 (a : LI×LI) (side:Int) : Option (Sum Unit Unit) :=
 bindF (f201_j3 a side) fun z5 =>
 bif z5 then
 some (Sum.inr ())
 else
 some (Sum.inl ())
def f201_l4 (a : LI×LI) (side:Int) (r7 : LI) (go : (Int×(List (Int×Int))) → Option (List (Int×Int))) (v55:Int) (l3 : List (Int×Int)) : Option (List (Int×Int)) :=
 bif (decide (v55 < (List.length a.2:Int))) then
 guardF (0 ≤ v55 ∧ v55 < (List.length a.2:Int)) <|
 guardF (0 ≤ side ∧ side < (List.length a.1:Int)) <|
 guardF ((i64.wrap ((rd (0:Int) r7 side) * (rd (0:Int) a.1 side))) ≠ 0) <|
 guardF ((rd (0:Int) r7 side) ≠ 0) <|
 guardF (0 ≤ (i64.wrap ((i64.wrap ((i64.wrap (Int.tdiv v55 (i64.wrap ((rd (0:Int) r7 side) * (rd (0:Int) a.1 side))))) * (rd (0:Int) r7 side))) + (Int.tmod v55 (rd (0:Int) r7 side)))) ∧ (i64.wrap ((i64.wrap ((i64.wrap (Int.tdiv v55 (i64.wrap ((rd (0:Int) r7 side) * (rd (0:Int) a.1 side))))) * (rd (0:Int) r7 side))) + (Int.tmod v55 (rd (0:Int) r7 side)))) < (List.length l3:Int)) <|
 bindF (f84 (rd (0:Int) a.2 v55)) fun q10_7 =>
 bindF (f42 ((rd (Ty.z T5) l3 (i64.wrap ((i64.wrap ((i64.wrap (Int.tdiv v55 (i64.wrap ((rd (0:Int) r7 side) * (rd (0:Int) a.1 side))))) * (rd (0:Int) r7 side))) + (Int.tmod v55 (rd (0:Int) r7 side))))).1,(rd (Ty.z T5) l3 (i64.wrap ((i64.wrap ((i64.wrap (Int.tdiv v55 (i64.wrap ((rd (0:Int) r7 side) * (rd (0:Int) a.1 side))))) * (rd (0:Int) r7 side))) + (Int.tmod v55 (rd (0:Int) r7 side))))).2) (q10_7.1,q10_7.2)) fun q10_8 =>
 guardF (0 ≤ (i64.wrap ((i64.wrap ((i64.wrap (Int.tdiv v55 (i64.wrap ((rd (0:Int) r7 side) * (rd (0:Int) a.1 side))))) * (rd (0:Int) r7 side))) + (Int.tmod v55 (rd (0:Int) r7 side)))) ∧ (i64.wrap ((i64.wrap ((i64.wrap (Int.tdiv v55 (i64.wrap ((rd (0:Int) r7 side) * (rd (0:Int) a.1 side))))) * (rd (0:Int) r7 side))) + (Int.tmod v55 (rd (0:Int) r7 side)))) < (List.length l3:Int)) <|
 go ((i64.wrap (v55 + (1:Int))),(List.set l3 (Int.toNat (i64.wrap ((i64.wrap ((i64.wrap (Int.tdiv v55 (i64.wrap ((rd (0:Int) r7 side) * (rd (0:Int) a.1 side))))) * (rd (0:Int) r7 side))) + (Int.tmod v55 (rd (0:Int) r7 side))))) (q10_8.1,q10_8.2)))
 else
 some l3
def f201_l5 (z8 : List (Int×Int)) (go : (Int×LI) → Option LI) (v93:Int) (l4 : LI) : Option LI :=
 bif (decide (v93 < (List.length z8:Int))) then
 guardF (0 ≤ v93 ∧ v93 < (List.length z8:Int)) <|
 bindF (f220 ((rd (Ty.z T5) z8 v93).1,(rd (Ty.z T5) z8 v93).2)) fun q16_4 =>
 guardF (0 ≤ v93 ∧ v93 < (List.length l4:Int)) <|
 go ((i64.wrap (v93 + (1:Int))),(List.set l4 (Int.toNat v93) q16_4))
 else
 some l4
def f201 (a : LI×LI) (side:Int) : Option (Int×LI×LI) :=
 bindF (f201_j2 a side) fun z3 =>
 sumF z3 (fun z3a =>
 guardF (0 ≤ side ∧ side ≤ (List.length a.1:Int)) <|
 guardF (0 ≤ (i64.wrap (side + (1:Int))) ∧ (i64.wrap (side + (1:Int))) ≤ (List.length a.1:Int)) <|
 guardF ((List.length ([] : LI) + List.length (List.take (Int.toNat side) a.1)) * 8 ≤ 140737488355328) <|
 guardF ((List.length (([] : LI) ++ (List.take (Int.toNat side) a.1)) + List.length (List.drop (Int.toNat (i64.wrap (side + (1:Int)))) a.1)) * 8 ≤ 140737488355328) <|
 bindF (f100 ((([] : LI) ++ (List.take (Int.toNat side) a.1)) ++ (List.drop (Int.toNat (i64.wrap (side + (1:Int)))) a.1))) fun q3_12 =>
 guardF (0 ≤ q3_12 ∧ q3_12 ≤ q3_12 ∧ Int.toNat q3_12 * 16 ≤ 140737488355328) <|
 bindF (f235 a.1) fun r7 =>
 guardF (0 ≤ side ∧ side < (List.length r7:Int)) <|
 bindF (loopF (fun go x=>f201_l4 a side r7 go x.1 x.2) fuelN ((0:Int),(List.replicate (Int.toNat q3_12) (Ty.z T5)))) fun z8 =>
 bindF (f68 ((([] : LI) ++ (List.take (Int.toNat side) a.1)) ++ (List.drop (Int.toNat (i64.wrap (side + (1:Int)))) a.1)) (0:Int)) fun q10_10 =>
 bindF (loopF (fun go x=>f201_l5 z8 go x.1 x.2) fuelN ((0:Int),q10_10.2.2)) fun z9 =>
 some ((0:Int),q10_10.2.1,z9)) (fun z3b =>
 some ((1:Int),[],[]))
def C201 : Con where
 X := (LI×LI)×Int
 Y := Int×LI×LI
 e := 0
 args x := [.dat T3 x.1,.dat T2 x.2]
 hin x := []
 F x := f201 x.1 x.2
 ret y := [.raw true [(.osl 0),(.osl 1)],.dat T2 y.1]
 hout y := [(0,.arr 3 T2 y.2.1),(1,.arr 40 T2 y.2.2)]
 nout := 2
theorem C201_vc (a : LI×LI) (side:Int) (y : Int×LI×LI) (q : f201 a side = some y) : VC Tryz.f201 C201 (a,side) y := by
 unfold f201 at q
 refine OL ?_
 obtain ⟨z3,hz3,q⟩ := bE q
 refine OQ ⟨Sum.elim (fun z3a=>[(0,⟨[(1,.dat T2 side),(2,P0 0 0),(4,P0 1 0)],[(0,.cells [(.d T1 a.1),(.d T1 a.2)]),(1,.cells [N0,N0])],2⟩)]) (fun z3b=>[(1,⟨[(4,P0 0 0),(5,D0 1)],[(0,.cells [N0,N0])],1⟩)]) z3,?_,?_⟩
 ·have q := hz3
  clear hz3
  unfold f201_j2 at q
  obtain ⟨z5,hz5,q⟩ := bE q
  refine OQ ⟨[(0,⟨[(1,.dat T2 side),(2,P0 0 0),(4,P0 1 0),(29,.dat .bool z5)],[(0,.cells [(.d T1 a.1),(.d T1 a.2)]),(1,.cells [N0,N0])],2⟩)],?_,?_⟩
  ·have q := hz5
   clear hz5
   unfold f201_j3 at q
   obtain ⟨r6,hr6,q⟩ := bE q
   refine OL (AI f59_in (cV (cQ C59 (a.1,a.2) r6 [] false C59_holds hr6 rfl rfl (R2 (K0 (cN q (fun q=>?_) (fun q=>?_)))))))
   ·refine gY (cF (cN q (fun q=>?_) (fun q=>?_)))
    ·refine gY (gY (gY (gY (cF ?_))))
     cases sE q
     refine E4 I2 (R3 (AI (R2 TV) (R2 TV)))
    refine gN (gN (gN (gN (cT ?_))))
    cases sE q
    refine E4 I2 (R3 (AI (R2 TV) (R2 TV)))
   refine gN (cT (gN (gN (gN (gN (gN (cT ?_)))))))
   cases sE q
   refine E4 I2 (R3 (AI (R2 TV) (R2 TV)))
  refine AI (cI q (fun q=>?_) (fun q=>?_)) TV
  ·refine OL (OL ?_)
   cases sE q
   refine E4 [(0,some 1)] (R2 (AJ (AI rfl TV)))
  cases sE q
  refine E4 I2 (R2 (AI (R2 TV) (R2 TV)))
 rcases z3 with z3a | z3b
 ·dsimp only [sumF] at q
  refine AI (OL (EI (.take 1 (.take 2 (.take 3 (.take 4 (.take 6 (.take 7 (.take 8 (.take 9 (.take 10 (.alt 0 (.alt 5 (.alt 11 (.take 12 .done) .done) .done) .done)))))))))) (EI [] (EI [] (AI rfl (gI q (fun q=>?_))))))) TV
  refine gI q (fun q=>?_)
  refine AI TV (OL (AI TV (OL (gI q (fun q=>?_)))))
  refine AI TV (OL (gI q (fun q=>?_)))
  refine OL ?_
  obtain ⟨q3_12,hq3_12,q⟩ := bE q
  refine OL (AI f100_in (cV (cQ C100 ((([] : LI) ++ (List.take (Int.toNat side) a.1)) ++ (List.drop (Int.toNat (i64.wrap (side + (1:Int)))) a.1)) q3_12 [] true C100_holds hq3_12 rfl rfl (AI rfl (AI (fun _=>rfl) (R2 (AI TV (AI TV (gI q (fun q=>?_))))))))))
  refine OL ?_
  obtain ⟨r7,hr7,q⟩ := bE q
  refine OL (AI f235_in (cV (cQ C235 a.1 r7 [] false C235_holds hr7 rfl rfl (AI rfl (K0 (gI q (fun q=>?_)))))))
  refine OL (OL ?_)
  obtain ⟨z8,hz8,q⟩ := bE q
  refine lI (Int×(List (Int×Int))) (List (Int×Int)) (fun x=>⟨[(1,.dat T2 side),(2,P0 0 0),(4,P0 1 0),(6,O0 2),(7,O0 3),(8,.dat T2 (rd (0:Int) r7 side)),(53,.dat T1 a.2),(54,.dat T2 (List.length a.2:Int)),(55,.dat T2 x.1)],[(0,.cells [(.d T1 a.1),(.d T1 a.2)]),(1,.cells [N0,N0]),(2,.arr 3 T2 ((([] : LI) ++ (List.take (Int.toNat side) a.1)) ++ (List.drop (Int.toNat (i64.wrap (side + (1:Int)))) a.1))),(3,.arr 79 T5 x.2)],4⟩) (fun z=>[(2,⟨[(4,P0 0 0),(6,O0 1),(7,O0 2)],[(0,.cells [N0,N0]),(1,.arr 3 T2 ((([] : LI) ++ (List.take (Int.toNat side) a.1)) ++ (List.drop (Int.toNat (i64.wrap (side + (1:Int)))) a.1))),(2,.arr 79 T5 z)],3⟩)]) (loopF (fun go x=>f201_l4 a side r7 go x.1 x.2)) fuelN ((0:Int),(List.replicate (Int.toNat q3_12) (Ty.z T5))) z8 (AI hz8 (AI (E4 [(0,some 0),(1,some 1),(2,some 4),(3,some 5)] (R6 (AI (R4 TV) (R4 TV)))) (AI (fun _ _ h=>lZ h) (AI (fun m=>curI (fun v55=>fun l3 z q=>?_)) ?_))))
  ·have q : f201_l4 a side r7 (loopF (fun go x=>f201_l4 a side r7 go x.1 x.2) m) v55 l3 = some z := q
   unfold f201_l4 at q
   refine OL (OL (cI q (fun q=>?_) (fun q=>?_)))
   ·refine OL (OL (gI q (fun q=>?_)))
    refine OL (EI (.take 0 (.take 1 (.take 2 (.take 3 (.take 4 (.take 5 (.take 6 (.take 7 (.take 8 (.take 9 (.take 10 (.take 11 (.take 12 (.take 13 (.take 14 (.take 15 .done)))))))))))))))) (EI [] (EI [] (AI rfl (gI q (fun q=>?_))))))
    refine gI q (fun q=>?_)
    refine gI q (fun q=>?_)
    refine EI (.take 0 (.take 1 (.take 2 (.take 3 (.take 4 (.take 5 (.take 6 (.alt 7 (.alt 8 (.take 9 (.alt 10 .done .done)) .done) .done)))))))) (EI [(10,[3])] (EI [] (AI rfl (gI q (fun q=>?_)))))
    refine AI TV ?_
    obtain ⟨q10_7,hq10_7,q⟩ := bE q
    refine OL (AI f84_in (cV (cQ C84 (rd (0:Int) a.2 v55) q10_7 [] false C84_holds hq10_7 rfl rfl (AI rfl (K0 (AI TV ?_))))))
    obtain ⟨q10_8,hq10_8,q⟩ := bE q
    refine OL (AI f42_in (cV (cQ C42 (((rd (Ty.z T5) l3 (i64.wrap ((i64.wrap ((i64.wrap (Int.tdiv v55 (i64.wrap ((rd (0:Int) r7 side) * (rd (0:Int) a.1 side))))) * (rd (0:Int) r7 side))) + (Int.tmod v55 (rd (0:Int) r7 side))))).1,(rd (Ty.z T5) l3 (i64.wrap ((i64.wrap ((i64.wrap (Int.tdiv v55 (i64.wrap ((rd (0:Int) r7 side) * (rd (0:Int) a.1 side))))) * (rd (0:Int) r7 side))) + (Int.tmod v55 (rd (0:Int) r7 side))))).2),(q10_7.1,q10_7.2)) q10_8 [] false C42_holds hq10_8 rfl rfl (R4 (K0 (gI q (fun q=>?_)))))))
    refine AI TV (OL (EI ((i64.wrap (v55 + (1:Int))),(List.set l3 (Int.toNat (i64.wrap ((i64.wrap ((i64.wrap (Int.tdiv v55 (i64.wrap ((rd (0:Int) r7 side) * (rd (0:Int) a.1 side))))) * (rd (0:Int) r7 side))) + (Int.tmod v55 (rd (0:Int) r7 side))))) (q10_8.1,q10_8.2))) (AI q (E4 I4 (R6 (AI (R4 TV) (R4 TV)))))))
   cases sE q
   refine E4 [(0,some 1),(1,some 2),(2,some 3)] (AI rfl (AI (R3 TV) (R3 TV)))
  refine AI (OL ?_) TV
  obtain ⟨q10_10,hq10_10,q⟩ := bE q
  refine OL (AI f68_in (cV (cQ C68 (((([] : LI) ++ (List.take (Int.toNat side) a.1)) ++ (List.drop (Int.toNat (i64.wrap (side + (1:Int)))) a.1)),(0:Int)) q10_10 [] true C68_holds hq10_10 rfl rfl (R2 (AI (fun _=>rfl) (R2 (AI TV (AI TV (OL (OL (OL ?_)))))))))))
  obtain ⟨z9,hz9,q⟩ := bE q
  refine lI (Int×LI) LI (fun x=>⟨[(4,P0 0 0),(12,P0 1 0),(91,O0 2),(92,.dat T2 (List.length z8:Int)),(93,.dat T2 x.1)],[(0,.cells [N0,N0]),(1,.cells [(.osl 3),(.osl 4)]),(2,.arr 79 T5 z8),(3,.arr 3 T2 q10_10.2.1),(4,.arr 40 T2 x.2)],5⟩) (fun z=>[(4,⟨[(4,P0 0 0),(12,P0 1 0)],[(0,.cells [N0,N0]),(1,.cells [(.osl 2),(.osl 3)]),(2,.arr 3 T2 q10_10.2.1),(3,.arr 40 T2 z)],4⟩)]) (loopF (fun go x=>f201_l5 z8 go x.1 x.2)) fuelN ((0:Int),q10_10.2.2) z9 (AI hz9 (AI (E4 [(0,some 0),(1,some 5),(2,some 2),(3,some 3),(4,some 4)] (R3 (AI (R3 TV) (R5 TV)))) (AI (fun _ _ h=>lZ h) (AI (fun m=>curI (fun v93=>fun l4 z q=>?_)) ?_))))
  ·have q : f201_l5 z8 (loopF (fun go x=>f201_l5 z8 go x.1 x.2) m) v93 l4 = some z := q
   unfold f201_l5 at q
   refine OL (OL (cI q (fun q=>?_) (fun q=>?_)))
   ·refine OL (OL (gI q (fun q=>?_)))
    refine OL (EI (.take 0 (.take 1 (.take 2 (.take 3 (.alt 4 (.take 5 (.alt 6 .done .done)) .done))))) (EI [] (EI [] (AI rfl (AI TV ?_)))))
    obtain ⟨q16_4,hq16_4,q⟩ := bE q
    refine OL (AI f220_in (cV (cQ C220 ((rd (Ty.z T5) z8 v93).1,(rd (Ty.z T5) z8 v93).2) q16_4 [] false C220_holds hq16_4 rfl rfl (R2 (K0 (gI q (fun q=>?_)))))))
    refine AI TV (OL (EI ((i64.wrap (v93 + (1:Int))),(List.set l4 (Int.toNat v93) q16_4)) (AI q (E4 I5 (R3 (AI (R3 TV) (R5 TV)))))))
   cases sE q
   refine E4 [(0,some 0),(1,some 1),(2,some 3),(3,some 4)] (AI rfl (AI (R2 TV) (R4 TV)))
  refine AI (OL (OL ?_)) TV
  cases sE q
  refine AI rfl (E4 [(0,some 2),(1,some 3)] (R2 (AJ (R2 TV))))
 dsimp only [sumF] at q
 refine AI ?_ TV
 cases sE q
 refine AI rfl (E4 [(0,none),(1,none)] (R2 (AJ (R2 TV))))
theorem C201_holds : HP C201 201 := hH Tryz.f201 (by kernel_rfl) rfl (fun x y q=>C201_vc x.1 x.2 y q)
theorem f201_in : InP 201 := inP (by kernel_rfl)
def f236_l1 (v : LI) (go : (Int×Int×Int) → Option (Int×Int)) (v9:Int) (c1_0:Int) (c1_1:Int) : Option (Int×Int) :=
 bif (decide (v9 < (List.length v:Int))) then
 guardF (0 ≤ v9 ∧ v9 < (List.length v:Int)) <|
 bindF (f84 (rd (0:Int) v v9)) fun q5_2 =>
 bindF (f42 (c1_0,c1_1) (q5_2.1,q5_2.2)) fun q5_3 =>
 go ((i64.wrap (v9 + (1:Int))),q5_3.1,q5_3.2)
 else
 some (c1_0,c1_1)
def f236 (v : LI) : Option (Int×Int) :=
 bindF (loopF (fun go x=>f236_l1 v go x.1 x.2.1 x.2.2) fuelN ((0:Int),(0:Int),(0:Int))) fun z1 =>
 some (z1.1,z1.2)
def C236 : Con where
 X := LI
 Y := Int×Int
 e := 0
 args x := [.dat T1 x]
 hin x := []
 F x := f236 x
 ret y := [.raw true [(.d T2 y.1),(.d T4 y.2)]]
 hout y := []
 nout := 0
theorem C236_vc (v : LI) (y : Int×Int) (q : f236 v = some y) : VC Tryz.f236 C236 v y := by
 unfold f236 at q
 refine OL (OL (OL (OL (OL ?_))))
 obtain ⟨z1,hz1,q⟩ := bE q
 refine lI (Int×Int×Int) (Int×Int) (fun x=>⟨[(2,P0 0 0),(3,P0 1 0),(7,.dat T1 v),(8,.dat T2 (List.length v:Int)),(9,.dat T2 x.1)],[(0,.cells [(.d T2 (0:Int)),(.d T4 (0:Int))]),(1,.cells [(.d T2 x.2.1),(.d T4 x.2.2)])],2⟩) (fun z=>[(2,⟨[(2,P0 0 0),(3,P0 1 0)],[(0,.cells [(.d T2 (0:Int)),(.d T4 (0:Int))]),(1,.cells [(.d T2 z.1),(.d T4 z.2)])],2⟩)]) (loopF (fun go x=>f236_l1 v go x.1 x.2.1 x.2.2)) fuelN ((0:Int),(0:Int),(0:Int)) z1 (AI hz1 (AI (E4 I2 (R4 (AI (R2 TV) (R2 TV)))) (AI (fun _ _ h=>lZ h) (AI (fun m=>curI (fun v9=>curI (fun c1_0=>fun c1_1 z q=>?_))) ?_))))
 ·have q : f236_l1 v (loopF (fun go x=>f236_l1 v go x.1 x.2.1 x.2.2) m) v9 c1_0 c1_1 = some z := q
  unfold f236_l1 at q
  refine OL (OL (cI q (fun q=>?_) (fun q=>?_)))
  ·refine OL (OL (gI q (fun q=>?_)))
   refine EI (.take 0 (.take 1 (.alt 2 (.alt 3 (.alt 4 .done .done) .done) .done))) (EI [(4,[1])] (EI [] (AI rfl (AI TV ?_))))
   obtain ⟨q5_2,hq5_2,q⟩ := bE q
   refine OL (AI f84_in (cV (cQ C84 (rd (0:Int) v v9) q5_2 [] false C84_holds hq5_2 rfl rfl (AI rfl (K0 (AI TV ?_))))))
   obtain ⟨q5_3,hq5_3,q⟩ := bE q
   refine OL (AI f42_in (cV (cQ C42 ((c1_0,c1_1),(q5_2.1,q5_2.2)) q5_3 [] false C42_holds hq5_3 rfl rfl (R4 (K0 (AI TV (OL (EI ((i64.wrap (v9 + (1:Int))),q5_3.1,q5_3.2) (AI q (E4 I2 (R4 (AI (R2 TV) (R2 TV)))))))))))))
  cases sE q
  refine E4 I2 (AI rfl (AI (R2 TV) (R2 TV)))
 refine AI (OL (OL ?_)) TV
 cases sE q
 refine AI rfl (E4 [] (AI rfl (AJ TV)))
theorem C236_holds : HP C236 236 := hH Tryz.f236 (by kernel_rfl) rfl (fun x y q=>C236_vc x y q)
theorem f236_in : InP 236 := inP (by kernel_rfl)
def f203 (a : LI×LI) : Option (Int×Int) :=
 bindF (f59 (a.1,a.2)) fun r1 =>
 bif (!r1) then
 some ((0:Int),(1:Int))
 else
 bindF (f236 a.2) fun r2 =>
 bindF (f220 (r2.1,r2.2)) fun r3 =>
 some (r3,(0:Int))
def C203 : Con where
 X := LI×LI
 Y := Int×Int
 e := 0
 args x := [.dat T3 x]
 hin x := []
 F x := f203 x
 ret y := [.dat T2 y.1,.dat T2 y.2]
 hout y := []
 nout := 0
theorem C203_vc (a : LI×LI) (y : Int×Int) (q : f203 a = some y) : VC Tryz.f203 C203 a y := by
 unfold f203 at q
 refine OL (OL (OL ?_))
 obtain ⟨r1,hr1,q⟩ := bE q
 refine OL (AI f59_in (cV (cQ C59 (a.1,a.2) r1 [] false C59_holds hr1 rfl rfl (R2 (K0 (cI q (fun q=>?_) (fun q=>?_)))))))
 ·cases sE q
  refine OL (AI rfl (E4 [] (R3 (AI TV TV))))
 refine OL ?_
 obtain ⟨r2,hr2,q⟩ := bE q
 refine OL (AI f236_in (cV (cQ C236 a.2 r2 [] false C236_holds hr2 rfl rfl (AI rfl (K0 ?_)))))
 obtain ⟨r3,hr3,q⟩ := bE q
 refine OL (AI f220_in (cV (cQ C220 (r2.1,r2.2) r3 [] false C220_holds hr3 rfl rfl (R2 (K0 ?_)))))
 cases sE q
 refine AI rfl (E4 [] (R3 (AI TV TV)))
theorem C203_holds : HP C203 203 := hH Tryz.f203 (by kernel_rfl) rfl (fun x y q=>C203_vc x y q)
theorem f203_in : InP 203 := inP (by kernel_rfl)
def f202 (x_:Int) (e:Int) : Option (Int×LI×LI) :=
 bif (e != (0:Int)) then
 some (e,[],[])
 else
 bindF (f68 ([]) x_) fun r1 =>
 some (r1.1,r1.2.1,r1.2.2)
def C202 : Con where
 X := Int×Int
 Y := Int×LI×LI
 e := 0
 args x := [.dat T2 x.1,.dat T2 x.2]
 hin x := []
 F x := f202 x.1 x.2
 ret y := [.raw true [(.osl 0),(.osl 1)],.dat T2 y.1]
 hout y := [(0,.arr 3 T2 y.2.1),(1,.arr 40 T2 y.2.2)]
 nout := 2
theorem C202_vc (x_:Int) (e:Int) (y : Int×LI×LI) (q : f202 x_ e = some y) : VC Tryz.f202 C202 (x_,e) y := by
 unfold f202 at q
 refine OL (OL (OL (cI q (fun q=>?_) (fun q=>?_))))
 ·refine OL (OL ?_)
  cases sE q
  refine AI rfl (E4 [(0,none),(1,none)] (R2 (AJ (R2 TV))))
 refine OL ?_
 obtain ⟨r1,hr1,q⟩ := bE q
 refine OL (AI f68_in (cV (cQ C68 ([],x_) r1 [] false C68_holds hr1 rfl rfl (R2 (K0 (OL ?_))))))
 cases sE q
 refine AI rfl (E4 [(0,some 1),(1,some 2)] (R2 (AJ (R2 TV))))
theorem C202_holds : HP C202 202 := hH Tryz.f202 (by kernel_rfl) rfl (fun x y q=>C202_vc x.1 x.2 y q)
theorem f202_in : InP 202 := inP (by kernel_rfl)
def f216_j1 (a : Int×Int) (b : Int×Int) : Option Bool :=
 bif (decide (a.1 < b.1)) then
 some true
 else
 bif (a.1 == b.1) then
 some (decide (a.2 < b.2))
 else
 some false
def f216 (a : Int×Int) (b : Int×Int) : Option Int :=
 bindF (f216_j1 a b) fun z1 =>
 bif z1 then
 some (-1:Int)
 else
 bif (a.1 == b.1 && a.2 == b.2) then
 some (0:Int)
 else
 some (1:Int)
def C216 : Con where
 X := (Int×Int)×(Int×Int)
 Y := Int
 e := 0
 args x := [.dat T5 x.1,.dat T5 x.2]
 hin x := []
 F x := f216 x.1 x.2
 ret y := [.dat T2 y]
 hout y := []
 nout := 0
theorem C216_vc (a : Int×Int) (b : Int×Int) (y:Int) (q : f216 a b = some y) : VC Tryz.f216 C216 (a,b) y := by
 unfold f216 at q
 refine OL (OL ?_)
 obtain ⟨z1,hz1,q⟩ := bE q
 refine OQ ⟨[(0,⟨[(2,P0 0 0),(3,P0 1 0),(5,.dat .bool z1)],[(0,.cells [(.d T2 a.1),(.d T4 a.2)]),(1,.cells [(.d T2 b.1),(.d T4 b.2)])],2⟩)],?_,?_⟩
 ·have q := hz1
  clear hz1
  unfold f216_j1 at q
  refine cN q (fun q=>?_) (fun q=>?_)
  ·refine gY (gY (gY (gY (gY (cI q (fun q=>?_) (fun q=>?_))))))
   ·refine gX (gX (gX (gX (gY (cT (cF ?_))))))
    cases sE q
    refine E4 I2 (R2 (AI (R2 TV) (R2 TV)))
   refine gM (gM (gM (gM (gY (cF (cF ?_))))))
   cases sE q
   refine E4 I2 (R2 (AI (R2 TV) (R2 TV)))
  refine gN (gN (gN (gN (gN (gN (cT ?_))))))
  cases sE q
  refine E4 I2 (R2 (AI (R2 TV) (R2 TV)))
 refine AI (cI q (fun q=>?_) (fun q=>?_)) TV
 ·cases sE q
  refine OL (AI rfl (E4 [] (R2 (AI TV TV))))
 refine OL (AI ⟨by kernel_rfl,by kernel_rfl,by decide,by decide⟩ ?_)
 refine cI q (fun q=>?_) (fun q=>?_)
 ·cases sE q
  refine OL (AI rfl (E4 [] (R2 (AI TV TV))))
 cases sE q
 refine OL (AI rfl (E4 [] (R2 (AI TV TV))))
theorem C216_holds : HP C216 216 := hH Tryz.f216 (by kernel_rfl) rfl (fun x y q=>C216_vc x.1 x.2 y q)
theorem f216_in : InP 216 := inP (by kernel_rfl)
def f255_s1 : ByteArray := ⟨⟨[0,1,2,2,3,3,3,3,4,4,4,4,4,4,4,4,5,5,5,5,5,5,5,5,5,5,5,5,5,5,5,5,6,6,6,6,6,6,6,6,6,6,6,6,6,6,6,6,6,6,6,6,6,6,6,6,6,6,6,6,6,6,6,6,7,7,7,7,7,7,7,7,7,7,7,7,7,7,7,7,7,7,7,7,7,7,7,7,7,7,7,7,7,7,7,7,7,7,7,7,7,7,7,7,7,7,7,7,7,7,7,7,7,7,7,7,7,7,7,7,7,7,7,7,7,7,7,7,8,8,8,8,8,8,8,8,8,8,8,8,8,8,8,8,8,8,8,8,8,8,8,8,8,8,8,8,8,8,8,8,8,8,8,8,8,8,8,8,8,8,8,8,8,8,8,8,8,8,8,8,8,8,8,8,8,8,8,8,8,8,8,8,8,8,8,8,8,8,8,8,8,8,8,8,8,8,8,8,8,8,8,8,8,8,8,8,8,8,8,8,8,8,8,8,8,8,8,8,8,8,8,8,8,8,8,8,8,8,8,8,8,8,8,8,8,8,8,8,8,8,8,8,8,8,8,8]⟩⟩
def f255_j1 (x_:Int) : Option (Int×Int) :=
 bif (decide (x_ ≥ (4294967296:Int))) then
 some ((Int.fdiv x_ (2 ^ min (Int.toNat (32:Int)) u64.bits)),(32:Int))
 else
 some (x_,(0:Int))
def f255_j2 (z1 : Int×Int) : Option (Int×Int) :=
 bif (decide (z1.1 ≥ (65536:Int))) then
 some ((Int.fdiv z1.1 (2 ^ min (Int.toNat (16:Int)) u64.bits)),(i64.wrap (z1.2 + (16:Int))))
 else
 some (z1.1,z1.2)
def f255_j3 (z2 : Int×Int) : Option (Int×Int) :=
 bif (decide (z2.1 ≥ (256:Int))) then
 some ((Int.fdiv z2.1 (2 ^ min (Int.toNat (8:Int)) u64.bits)),(i64.wrap (z2.2 + (8:Int))))
 else
 some (z2.1,z2.2)
def f255 (x_:Int) : Option Int :=
 bindF (f255_j1 x_) fun z1 =>
 bindF (f255_j2 z1) fun z2 =>
 bindF (f255_j3 z2) fun z3 =>
 guardF (0 ≤ (u8.wrap z3.1) ∧ (u8.wrap z3.1) < (ByteArray.size f255_s1:Int)) <|
 some (i64.wrap (z3.2 + (i64.wrap (bt f255_s1 (u8.wrap z3.1)))))
def C255 : Con where
 X := Int
 Y := Int
 e := 0
 args x := [.dat T4 x]
 hin x := []
 F x := f255 x
 ret y := [.dat T2 y]
 hout y := []
 nout := 0
theorem C255_vc (x_:Int) (y:Int) (q : f255 x_ = some y) : VC Tryz.f255 C255 x_ y := by
 unfold f255 at q
 refine OL ?_
 obtain ⟨z1,hz1,q⟩ := bE q
 refine OQ ⟨[(0,⟨[(0,.dat T4 z1.1),(2,.dat T2 z1.2)],[],0⟩)],?_,?_⟩
 ·have q := hz1
  clear hz1
  unfold f255_j1 at q
  refine OL (cI q (fun q=>?_) (fun q=>?_))
  ·refine OL (AI (by decide) ?_)
   cases sE q
   refine E4 [] (R3 (AI TV TV))
  cases sE q
  refine E4 [] (R3 (AI TV TV))
 refine AI ?_ TV
 obtain ⟨z2,hz2,q⟩ := bE q
 refine OQ ⟨[(0,⟨[(0,.dat T4 z2.1),(2,.dat T2 z2.2)],[],0⟩)],?_,?_⟩
 ·have q := hz2
  clear hz2
  unfold f255_j2 at q
  refine OL (cI q (fun q=>?_) (fun q=>?_))
  ·refine OL (AI (by decide) ?_)
   cases sE q
   refine E4 [] (R3 (AI TV TV))
  cases sE q
  refine E4 [] (R3 (AI TV TV))
 refine AI ?_ TV
 obtain ⟨z3,hz3,q⟩ := bE q
 refine OQ ⟨[(0,⟨[(0,.dat T4 z3.1),(2,.dat T2 z3.2)],[],0⟩)],?_,?_⟩
 ·have q := hz3
  clear hz3
  unfold f255_j3 at q
  refine OL (cI q (fun q=>?_) (fun q=>?_))
  ·refine OL (AI (by decide) ?_)
   cases sE q
   refine E4 [] (R3 (AI TV TV))
  cases sE q
  refine E4 [] (R3 (AI TV TV))
 refine AI (OL (gI q (fun q=>?_))) TV
 cases sE q
 refine AI rfl (E4 [] (R2 (AI TV TV)))
theorem C255_holds : HP C255 255 := hH Tryz.f255 (by kernel_rfl) rfl (fun x y q=>C255_vc x y q)
theorem f255_in : InP 255 := inP (by kernel_rfl)
def f243 (x_:Int) : Option Int :=
 bindF (f255 x_) fun r1 =>
 some (i64.wrap ((64:Int) - r1))
def C243 : Con where
 X := Int
 Y := Int
 e := 0
 args x := [.dat T4 x]
 hin x := []
 F x := f243 x
 ret y := [.dat T2 y]
 hout y := []
 nout := 0
theorem C243_vc (x_:Int) (y:Int) (q : f243 x_ = some y) : VC Tryz.f243 C243 x_ y := by
 unfold f243 at q
 refine OL (OL ?_)
 obtain ⟨r1,hr1,q⟩ := bE q
 refine OL (AI f255_in (cV (cQ C255 x_ r1 [] false C255_holds hr1 rfl rfl (AI rfl (K0 ?_)))))
 cases sE q
 refine AI rfl (E4 [] (R2 (AI TV TV)))
theorem C243_holds : HP C243 243 := hH Tryz.f243 (by kernel_rfl) rfl (fun x y q=>C243_vc x y q)
theorem f243_in : InP 243 := inP (by kernel_rfl)
def f219_j4 (lo:Int) (y_:Int) (q6_7:Int) (q1:Int) (rhat:Int) : Option (Sum Unit Unit) :=
 bif (decide (q1 ≥ (4294967296:Int))) then
 some (Sum.inl ())
 else
 bif (decide ((u64.wrap (q1 * (bitsOf IntKind.u64 (fun p q=>p &&& q) (u64.wrap (y_ * 2 ^ min (Int.toNat (u64.wrap q6_7)) u64.bits)) (4294967295:Int)))) > (u64.wrap ((u64.wrap ((4294967296:Int) * rhat)) + (Int.fdiv (u64.wrap (lo * 2 ^ min (Int.toNat (u64.wrap q6_7)) u64.bits)) (2 ^ min (Int.toNat (32:Int)) u64.bits)))))) then
 some (Sum.inl ())
 else
 some (Sum.inr ())
def f219_l3 (lo:Int) (y_:Int) (q6_7:Int) (go : (Int×Int) → Option Int) (q1:Int) (rhat:Int) : Option Int :=
 bindF (f219_j4 lo y_ q6_7 q1 rhat) fun z4 =>
 sumF z4 (fun z4a =>
 bif (decide ((u64.wrap (rhat + (Int.fdiv (u64.wrap (y_ * 2 ^ min (Int.toNat (u64.wrap q6_7)) u64.bits)) (2 ^ min (Int.toNat (32:Int)) u64.bits)))) ≥ (4294967296:Int))) then
 some (u64.wrap (q1 - (1:Int)))
 else
 go ((u64.wrap (q1 - (1:Int))),(u64.wrap (rhat + (Int.fdiv (u64.wrap (y_ * 2 ^ min (Int.toNat (u64.wrap q6_7)) u64.bits)) (2 ^ min (Int.toNat (32:Int)) u64.bits)))))) (fun z4b =>
 some q1)
def f219_j8 (lo:Int) (y_:Int) (q6_7:Int) (rhat:Int) (q0:Int) : Option (Sum Unit Unit) :=
 bif (decide (q0 ≥ (4294967296:Int))) then
 some (Sum.inl ())
 else
 bif (decide ((u64.wrap (q0 * (bitsOf IntKind.u64 (fun p q=>p &&& q) (u64.wrap (y_ * 2 ^ min (Int.toNat (u64.wrap q6_7)) u64.bits)) (4294967295:Int)))) > (u64.wrap ((u64.wrap ((4294967296:Int) * rhat)) + (bitsOf IntKind.u64 (fun p q=>p &&& q) (u64.wrap (lo * 2 ^ min (Int.toNat (u64.wrap q6_7)) u64.bits)) (4294967295:Int)))))) then
 some (Sum.inl ())
 else
 some (Sum.inr ())
def f219_l7 (lo:Int) (y_:Int) (q6_7:Int) (go : (Int×Int) → Option Int) (rhat:Int) (q0:Int) : Option Int :=
 bindF (f219_j8 lo y_ q6_7 rhat q0) fun z8 =>
 sumF z8 (fun z8a =>
 bif (decide ((u64.wrap (rhat + (Int.fdiv (u64.wrap (y_ * 2 ^ min (Int.toNat (u64.wrap q6_7)) u64.bits)) (2 ^ min (Int.toNat (32:Int)) u64.bits)))) ≥ (4294967296:Int))) then
 some (u64.wrap (q0 - (1:Int)))
 else
 go ((u64.wrap (rhat + (Int.fdiv (u64.wrap (y_ * 2 ^ min (Int.toNat (u64.wrap q6_7)) u64.bits)) (2 ^ min (Int.toNat (32:Int)) u64.bits)))),(u64.wrap (q0 - (1:Int))))) (fun z8b =>
 some q0)
def f219 (hi:Int) (lo:Int) (y_:Int) : Option (Int×Int) :=
 bif (y_ == (0:Int)) then
 none
 else
 bif (decide (y_ ≤ hi)) then
 none
 else
 bif (hi == (0:Int)) then
 guardF (y_ ≠ 0) <|
 guardF (y_ ≠ 0) <|
 some ((u64.wrap (Int.tdiv lo y_)),(Int.tmod lo y_))
 else
 bindF (f243 y_) fun q6_7 =>
 guardF (0 ≤ (u64.wrap q6_7)) <|
 guardF (0 ≤ (u64.wrap q6_7)) <|
 guardF (0 ≤ (u64.wrap ((64:Int) - (u64.wrap q6_7)))) <|
 guardF (0 ≤ (u64.wrap q6_7)) <|
 guardF ((Int.fdiv (u64.wrap (y_ * 2 ^ min (Int.toNat (u64.wrap q6_7)) u64.bits)) (2 ^ min (Int.toNat (32:Int)) u64.bits)) ≠ 0) <|
 bindF (loopF (fun go x=>f219_l3 lo y_ q6_7 go x.1 x.2) fuelN ((u64.wrap (Int.tdiv (bitsOf IntKind.u64 (fun p q=>p ||| q) (u64.wrap (hi * 2 ^ min (Int.toNat (u64.wrap q6_7)) u64.bits)) (Int.fdiv lo (2 ^ min (Int.toNat (u64.wrap ((64:Int) - (u64.wrap q6_7)))) u64.bits))) (Int.fdiv (u64.wrap (y_ * 2 ^ min (Int.toNat (u64.wrap q6_7)) u64.bits)) (2 ^ min (Int.toNat (32:Int)) u64.bits)))),(u64.wrap ((bitsOf IntKind.u64 (fun p q=>p ||| q) (u64.wrap (hi * 2 ^ min (Int.toNat (u64.wrap q6_7)) u64.bits)) (Int.fdiv lo (2 ^ min (Int.toNat (u64.wrap ((64:Int) - (u64.wrap q6_7)))) u64.bits))) - (u64.wrap ((u64.wrap (Int.tdiv (bitsOf IntKind.u64 (fun p q=>p ||| q) (u64.wrap (hi * 2 ^ min (Int.toNat (u64.wrap q6_7)) u64.bits)) (Int.fdiv lo (2 ^ min (Int.toNat (u64.wrap ((64:Int) - (u64.wrap q6_7)))) u64.bits))) (Int.fdiv (u64.wrap (y_ * 2 ^ min (Int.toNat (u64.wrap q6_7)) u64.bits)) (2 ^ min (Int.toNat (32:Int)) u64.bits)))) * (Int.fdiv (u64.wrap (y_ * 2 ^ min (Int.toNat (u64.wrap q6_7)) u64.bits)) (2 ^ min (Int.toNat (32:Int)) u64.bits)))))))) fun z3 =>
 guardF ((Int.fdiv (u64.wrap (y_ * 2 ^ min (Int.toNat (u64.wrap q6_7)) u64.bits)) (2 ^ min (Int.toNat (32:Int)) u64.bits)) ≠ 0) <|
 bindF (loopF (fun go x=>f219_l7 lo y_ q6_7 go x.1 x.2) fuelN ((u64.wrap ((u64.wrap ((u64.wrap ((u64.wrap ((bitsOf IntKind.u64 (fun p q=>p ||| q) (u64.wrap (hi * 2 ^ min (Int.toNat (u64.wrap q6_7)) u64.bits)) (Int.fdiv lo (2 ^ min (Int.toNat (u64.wrap ((64:Int) - (u64.wrap q6_7)))) u64.bits))) * (4294967296:Int))) + (Int.fdiv (u64.wrap (lo * 2 ^ min (Int.toNat (u64.wrap q6_7)) u64.bits)) (2 ^ min (Int.toNat (32:Int)) u64.bits)))) - (u64.wrap (z3 * (u64.wrap (y_ * 2 ^ min (Int.toNat (u64.wrap q6_7)) u64.bits)))))) - (u64.wrap ((u64.wrap (Int.tdiv (u64.wrap ((u64.wrap ((u64.wrap ((bitsOf IntKind.u64 (fun p q=>p ||| q) (u64.wrap (hi * 2 ^ min (Int.toNat (u64.wrap q6_7)) u64.bits)) (Int.fdiv lo (2 ^ min (Int.toNat (u64.wrap ((64:Int) - (u64.wrap q6_7)))) u64.bits))) * (4294967296:Int))) + (Int.fdiv (u64.wrap (lo * 2 ^ min (Int.toNat (u64.wrap q6_7)) u64.bits)) (2 ^ min (Int.toNat (32:Int)) u64.bits)))) - (u64.wrap (z3 * (u64.wrap (y_ * 2 ^ min (Int.toNat (u64.wrap q6_7)) u64.bits)))))) (Int.fdiv (u64.wrap (y_ * 2 ^ min (Int.toNat (u64.wrap q6_7)) u64.bits)) (2 ^ min (Int.toNat (32:Int)) u64.bits)))) * (Int.fdiv (u64.wrap (y_ * 2 ^ min (Int.toNat (u64.wrap q6_7)) u64.bits)) (2 ^ min (Int.toNat (32:Int)) u64.bits)))))),(u64.wrap (Int.tdiv (u64.wrap ((u64.wrap ((u64.wrap ((bitsOf IntKind.u64 (fun p q=>p ||| q) (u64.wrap (hi * 2 ^ min (Int.toNat (u64.wrap q6_7)) u64.bits)) (Int.fdiv lo (2 ^ min (Int.toNat (u64.wrap ((64:Int) - (u64.wrap q6_7)))) u64.bits))) * (4294967296:Int))) + (Int.fdiv (u64.wrap (lo * 2 ^ min (Int.toNat (u64.wrap q6_7)) u64.bits)) (2 ^ min (Int.toNat (32:Int)) u64.bits)))) - (u64.wrap (z3 * (u64.wrap (y_ * 2 ^ min (Int.toNat (u64.wrap q6_7)) u64.bits)))))) (Int.fdiv (u64.wrap (y_ * 2 ^ min (Int.toNat (u64.wrap q6_7)) u64.bits)) (2 ^ min (Int.toNat (32:Int)) u64.bits)))))) fun z7 =>
 guardF (0 ≤ (u64.wrap q6_7)) <|
 some ((u64.wrap ((u64.wrap (z3 * (4294967296:Int))) + z7)),(Int.fdiv (u64.wrap ((u64.wrap ((u64.wrap ((u64.wrap ((u64.wrap ((u64.wrap ((bitsOf IntKind.u64 (fun p q=>p ||| q) (u64.wrap (hi * 2 ^ min (Int.toNat (u64.wrap q6_7)) u64.bits)) (Int.fdiv lo (2 ^ min (Int.toNat (u64.wrap ((64:Int) - (u64.wrap q6_7)))) u64.bits))) * (4294967296:Int))) + (Int.fdiv (u64.wrap (lo * 2 ^ min (Int.toNat (u64.wrap q6_7)) u64.bits)) (2 ^ min (Int.toNat (32:Int)) u64.bits)))) - (u64.wrap (z3 * (u64.wrap (y_ * 2 ^ min (Int.toNat (u64.wrap q6_7)) u64.bits)))))) * (4294967296:Int))) + (bitsOf IntKind.u64 (fun p q=>p &&& q) (u64.wrap (lo * 2 ^ min (Int.toNat (u64.wrap q6_7)) u64.bits)) (4294967295:Int)))) - (u64.wrap (z7 * (u64.wrap (y_ * 2 ^ min (Int.toNat (u64.wrap q6_7)) u64.bits)))))) (2 ^ min (Int.toNat (u64.wrap q6_7)) u64.bits)))
def C219 : Con where
 X := Int×Int×Int
 Y := Int×Int
 e := 0
 args x := [.dat T4 x.1,.dat T4 x.2.1,.dat T4 x.2.2]
 hin x := []
 F x := f219 x.1 x.2.1 x.2.2
 ret y := [.dat T4 y.1,.dat T4 y.2]
 hout y := []
 nout := 0
theorem C219_vc (hi:Int) (lo:Int) (y_:Int) (y : Int×Int) (q : f219 hi lo y_ = some y) : VC Tryz.f219 C219 (hi,lo,y_) y := by
 unfold f219 at q
 refine OL (OL (OL (cI q (fun q=>?_) (fun q=>?_))))
 ·exact nomatch q
 refine OL (OL (cI q (fun q=>?_) (fun q=>?_)))
 ·exact nomatch q
 refine OL (OL (cI q (fun q=>?_) (fun q=>?_)))
 ·refine OL (EI (.take 0 (.take 1 (.take 2 (.take 3 (.take 4 (.take 5 (.take 6 (.take 7 .done)))))))) (EI [] (EI [] (AI rfl (gI q (fun q=>?_))))))
  refine gI q (fun q=>?_)
  cases sE q
  refine AI rfl (E4 [] (R3 (AI TV TV)))
 refine OL ?_
 obtain ⟨q6_7,hq6_7,q⟩ := bE q
 refine OL (AI f243_in (cV (cQ C243 y_ q6_7 [] false C243_holds hq6_7 rfl rfl (AI rfl (K0 (OL (gI q (fun q=>?_))))))))
 refine OL (AI (by decide) (OL (OL (gI q (fun q=>?_)))))
 refine gI q (fun q=>?_)
 refine OL (gI q (fun q=>?_))
 refine OL (AI (by decide) (OL (OL (gI q (fun q=>?_)))))
 refine OL (OL ?_)
 obtain ⟨z3,hz3,q⟩ := bE q
 refine lI (Int×Int) Int (fun x=>⟨[(2,.dat T4 (u64.wrap (y_ * 2 ^ min (Int.toNat (u64.wrap q6_7)) u64.bits))),(8,.dat T4 (u64.wrap q6_7)),(9,.dat T4 (Int.fdiv (u64.wrap (y_ * 2 ^ min (Int.toNat (u64.wrap q6_7)) u64.bits)) (2 ^ min (Int.toNat (32:Int)) u64.bits))),(10,.dat T4 (bitsOf IntKind.u64 (fun p q=>p &&& q) (u64.wrap (y_ * 2 ^ min (Int.toNat (u64.wrap q6_7)) u64.bits)) (4294967295:Int))),(11,.dat T4 (bitsOf IntKind.u64 (fun p q=>p ||| q) (u64.wrap (hi * 2 ^ min (Int.toNat (u64.wrap q6_7)) u64.bits)) (Int.fdiv lo (2 ^ min (Int.toNat (u64.wrap ((64:Int) - (u64.wrap q6_7)))) u64.bits)))),(13,.dat T4 (Int.fdiv (u64.wrap (lo * 2 ^ min (Int.toNat (u64.wrap q6_7)) u64.bits)) (2 ^ min (Int.toNat (32:Int)) u64.bits))),(14,.dat T4 (bitsOf IntKind.u64 (fun p q=>p &&& q) (u64.wrap (lo * 2 ^ min (Int.toNat (u64.wrap q6_7)) u64.bits)) (4294967295:Int))),(15,.dat T4 x.1),(16,.dat T4 x.2)],[],0⟩) (fun z=>[(2,⟨[(2,.dat T4 (u64.wrap (y_ * 2 ^ min (Int.toNat (u64.wrap q6_7)) u64.bits))),(8,.dat T4 (u64.wrap q6_7)),(9,.dat T4 (Int.fdiv (u64.wrap (y_ * 2 ^ min (Int.toNat (u64.wrap q6_7)) u64.bits)) (2 ^ min (Int.toNat (32:Int)) u64.bits))),(10,.dat T4 (bitsOf IntKind.u64 (fun p q=>p &&& q) (u64.wrap (y_ * 2 ^ min (Int.toNat (u64.wrap q6_7)) u64.bits)) (4294967295:Int))),(11,.dat T4 (bitsOf IntKind.u64 (fun p q=>p ||| q) (u64.wrap (hi * 2 ^ min (Int.toNat (u64.wrap q6_7)) u64.bits)) (Int.fdiv lo (2 ^ min (Int.toNat (u64.wrap ((64:Int) - (u64.wrap q6_7)))) u64.bits)))),(13,.dat T4 (Int.fdiv (u64.wrap (lo * 2 ^ min (Int.toNat (u64.wrap q6_7)) u64.bits)) (2 ^ min (Int.toNat (32:Int)) u64.bits))),(14,.dat T4 (bitsOf IntKind.u64 (fun p q=>p &&& q) (u64.wrap (lo * 2 ^ min (Int.toNat (u64.wrap q6_7)) u64.bits)) (4294967295:Int))),(15,.dat T4 z)],[],0⟩)]) (loopF (fun go x=>f219_l3 lo y_ q6_7 go x.1 x.2)) fuelN ((u64.wrap (Int.tdiv (bitsOf IntKind.u64 (fun p q=>p ||| q) (u64.wrap (hi * 2 ^ min (Int.toNat (u64.wrap q6_7)) u64.bits)) (Int.fdiv lo (2 ^ min (Int.toNat (u64.wrap ((64:Int) - (u64.wrap q6_7)))) u64.bits))) (Int.fdiv (u64.wrap (y_ * 2 ^ min (Int.toNat (u64.wrap q6_7)) u64.bits)) (2 ^ min (Int.toNat (32:Int)) u64.bits)))),(u64.wrap ((bitsOf IntKind.u64 (fun p q=>p ||| q) (u64.wrap (hi * 2 ^ min (Int.toNat (u64.wrap q6_7)) u64.bits)) (Int.fdiv lo (2 ^ min (Int.toNat (u64.wrap ((64:Int) - (u64.wrap q6_7)))) u64.bits))) - (u64.wrap ((u64.wrap (Int.tdiv (bitsOf IntKind.u64 (fun p q=>p ||| q) (u64.wrap (hi * 2 ^ min (Int.toNat (u64.wrap q6_7)) u64.bits)) (Int.fdiv lo (2 ^ min (Int.toNat (u64.wrap ((64:Int) - (u64.wrap q6_7)))) u64.bits))) (Int.fdiv (u64.wrap (y_ * 2 ^ min (Int.toNat (u64.wrap q6_7)) u64.bits)) (2 ^ min (Int.toNat (32:Int)) u64.bits)))) * (Int.fdiv (u64.wrap (y_ * 2 ^ min (Int.toNat (u64.wrap q6_7)) u64.bits)) (2 ^ min (Int.toNat (32:Int)) u64.bits))))))) z3 (AI hz3 (AI (E4 [] (R10 (AI TV TV))) (AI (fun _ _ h=>lZ h) (AI (fun m=>curI (fun q1=>fun rhat z q=>?_)) ?_))))
 ·have q : f219_l3 lo y_ q6_7 (loopF (fun go x=>f219_l3 lo y_ q6_7 go x.1 x.2) m) q1 rhat = some z := q
  unfold f219_l3 at q
  obtain ⟨z4,hz4,q⟩ := bE q
  refine OQ ⟨Sum.elim (fun z4a=>[(0,⟨[(2,.dat T4 (u64.wrap (y_ * 2 ^ min (Int.toNat (u64.wrap q6_7)) u64.bits))),(8,.dat T4 (u64.wrap q6_7)),(9,.dat T4 (Int.fdiv (u64.wrap (y_ * 2 ^ min (Int.toNat (u64.wrap q6_7)) u64.bits)) (2 ^ min (Int.toNat (32:Int)) u64.bits))),(10,.dat T4 (bitsOf IntKind.u64 (fun p q=>p &&& q) (u64.wrap (y_ * 2 ^ min (Int.toNat (u64.wrap q6_7)) u64.bits)) (4294967295:Int))),(11,.dat T4 (bitsOf IntKind.u64 (fun p q=>p ||| q) (u64.wrap (hi * 2 ^ min (Int.toNat (u64.wrap q6_7)) u64.bits)) (Int.fdiv lo (2 ^ min (Int.toNat (u64.wrap ((64:Int) - (u64.wrap q6_7)))) u64.bits)))),(13,.dat T4 (Int.fdiv (u64.wrap (lo * 2 ^ min (Int.toNat (u64.wrap q6_7)) u64.bits)) (2 ^ min (Int.toNat (32:Int)) u64.bits))),(14,.dat T4 (bitsOf IntKind.u64 (fun p q=>p &&& q) (u64.wrap (lo * 2 ^ min (Int.toNat (u64.wrap q6_7)) u64.bits)) (4294967295:Int))),(15,.dat T4 q1),(16,.dat T4 rhat)],[],0⟩)]) (fun z4b=>[(2,⟨[(2,.dat T4 (u64.wrap (y_ * 2 ^ min (Int.toNat (u64.wrap q6_7)) u64.bits))),(8,.dat T4 (u64.wrap q6_7)),(9,.dat T4 (Int.fdiv (u64.wrap (y_ * 2 ^ min (Int.toNat (u64.wrap q6_7)) u64.bits)) (2 ^ min (Int.toNat (32:Int)) u64.bits))),(10,.dat T4 (bitsOf IntKind.u64 (fun p q=>p &&& q) (u64.wrap (y_ * 2 ^ min (Int.toNat (u64.wrap q6_7)) u64.bits)) (4294967295:Int))),(11,.dat T4 (bitsOf IntKind.u64 (fun p q=>p ||| q) (u64.wrap (hi * 2 ^ min (Int.toNat (u64.wrap q6_7)) u64.bits)) (Int.fdiv lo (2 ^ min (Int.toNat (u64.wrap ((64:Int) - (u64.wrap q6_7)))) u64.bits)))),(13,.dat T4 (Int.fdiv (u64.wrap (lo * 2 ^ min (Int.toNat (u64.wrap q6_7)) u64.bits)) (2 ^ min (Int.toNat (32:Int)) u64.bits))),(14,.dat T4 (bitsOf IntKind.u64 (fun p q=>p &&& q) (u64.wrap (lo * 2 ^ min (Int.toNat (u64.wrap q6_7)) u64.bits)) (4294967295:Int))),(15,.dat T4 q1)],[],0⟩)]) z4,?_,?_⟩
  ·have q := hz4
   clear hz4
   unfold f219_j4 at q
   refine OL (cN q (fun q=>?_) (fun q=>?_))
   ·refine gY (gY (gY (gY (gY (gY (gY (cF (cI q (fun q=>?_) (fun q=>?_)))))))))
    ·cases sE q
     refine E4 [] (R10 (AI TV TV))
    cases sE q
    refine E4 [] (R9 (AI TV TV))
   refine gN (gN (gN (gN (gN (gN (gN (cT (cT ?_))))))))
   cases sE q
   refine E4 [] (R10 (AI TV TV))
  rcases z4 with z4a | z4b
  ·dsimp only [sumF] at q
   refine AI (OL (OL (OL (cI q (fun q=>?_) (fun q=>?_))))) TV
   ·cases sE q
    refine E4 [] (R9 (AI TV TV))
   refine EI ((u64.wrap (q1 - (1:Int))),(u64.wrap (rhat + (Int.fdiv (u64.wrap (y_ * 2 ^ min (Int.toNat (u64.wrap q6_7)) u64.bits)) (2 ^ min (Int.toNat (32:Int)) u64.bits))))) (AI q (E4 [] (R10 (AI TV TV))))
  dsimp only [sumF] at q
  refine AI ?_ TV
  cases sE q
  refine E4 [] (R9 (AI TV TV))
 refine AI (OL (OL (gI q (fun q=>?_)))) TV
 refine OL (OL ?_)
 obtain ⟨z7,hz7,q⟩ := bE q
 refine lI (Int×Int) Int (fun x=>⟨[(2,.dat T4 (u64.wrap (y_ * 2 ^ min (Int.toNat (u64.wrap q6_7)) u64.bits))),(8,.dat T4 (u64.wrap q6_7)),(9,.dat T4 (Int.fdiv (u64.wrap (y_ * 2 ^ min (Int.toNat (u64.wrap q6_7)) u64.bits)) (2 ^ min (Int.toNat (32:Int)) u64.bits))),(10,.dat T4 (bitsOf IntKind.u64 (fun p q=>p &&& q) (u64.wrap (y_ * 2 ^ min (Int.toNat (u64.wrap q6_7)) u64.bits)) (4294967295:Int))),(14,.dat T4 (bitsOf IntKind.u64 (fun p q=>p &&& q) (u64.wrap (lo * 2 ^ min (Int.toNat (u64.wrap q6_7)) u64.bits)) (4294967295:Int))),(15,.dat T4 z3),(16,.dat T4 x.1),(17,.dat T4 (u64.wrap ((u64.wrap ((u64.wrap ((bitsOf IntKind.u64 (fun p q=>p ||| q) (u64.wrap (hi * 2 ^ min (Int.toNat (u64.wrap q6_7)) u64.bits)) (Int.fdiv lo (2 ^ min (Int.toNat (u64.wrap ((64:Int) - (u64.wrap q6_7)))) u64.bits))) * (4294967296:Int))) + (Int.fdiv (u64.wrap (lo * 2 ^ min (Int.toNat (u64.wrap q6_7)) u64.bits)) (2 ^ min (Int.toNat (32:Int)) u64.bits)))) - (u64.wrap (z3 * (u64.wrap (y_ * 2 ^ min (Int.toNat (u64.wrap q6_7)) u64.bits))))))),(18,.dat T4 x.2)],[],0⟩) (fun z=>[(4,⟨[(2,.dat T4 (u64.wrap (y_ * 2 ^ min (Int.toNat (u64.wrap q6_7)) u64.bits))),(8,.dat T4 (u64.wrap q6_7)),(14,.dat T4 (bitsOf IntKind.u64 (fun p q=>p &&& q) (u64.wrap (lo * 2 ^ min (Int.toNat (u64.wrap q6_7)) u64.bits)) (4294967295:Int))),(15,.dat T4 z3),(17,.dat T4 (u64.wrap ((u64.wrap ((u64.wrap ((bitsOf IntKind.u64 (fun p q=>p ||| q) (u64.wrap (hi * 2 ^ min (Int.toNat (u64.wrap q6_7)) u64.bits)) (Int.fdiv lo (2 ^ min (Int.toNat (u64.wrap ((64:Int) - (u64.wrap q6_7)))) u64.bits))) * (4294967296:Int))) + (Int.fdiv (u64.wrap (lo * 2 ^ min (Int.toNat (u64.wrap q6_7)) u64.bits)) (2 ^ min (Int.toNat (32:Int)) u64.bits)))) - (u64.wrap (z3 * (u64.wrap (y_ * 2 ^ min (Int.toNat (u64.wrap q6_7)) u64.bits))))))),(18,.dat T4 z)],[],0⟩)]) (loopF (fun go x=>f219_l7 lo y_ q6_7 go x.1 x.2)) fuelN ((u64.wrap ((u64.wrap ((u64.wrap ((u64.wrap ((bitsOf IntKind.u64 (fun p q=>p ||| q) (u64.wrap (hi * 2 ^ min (Int.toNat (u64.wrap q6_7)) u64.bits)) (Int.fdiv lo (2 ^ min (Int.toNat (u64.wrap ((64:Int) - (u64.wrap q6_7)))) u64.bits))) * (4294967296:Int))) + (Int.fdiv (u64.wrap (lo * 2 ^ min (Int.toNat (u64.wrap q6_7)) u64.bits)) (2 ^ min (Int.toNat (32:Int)) u64.bits)))) - (u64.wrap (z3 * (u64.wrap (y_ * 2 ^ min (Int.toNat (u64.wrap q6_7)) u64.bits)))))) - (u64.wrap ((u64.wrap (Int.tdiv (u64.wrap ((u64.wrap ((u64.wrap ((bitsOf IntKind.u64 (fun p q=>p ||| q) (u64.wrap (hi * 2 ^ min (Int.toNat (u64.wrap q6_7)) u64.bits)) (Int.fdiv lo (2 ^ min (Int.toNat (u64.wrap ((64:Int) - (u64.wrap q6_7)))) u64.bits))) * (4294967296:Int))) + (Int.fdiv (u64.wrap (lo * 2 ^ min (Int.toNat (u64.wrap q6_7)) u64.bits)) (2 ^ min (Int.toNat (32:Int)) u64.bits)))) - (u64.wrap (z3 * (u64.wrap (y_ * 2 ^ min (Int.toNat (u64.wrap q6_7)) u64.bits)))))) (Int.fdiv (u64.wrap (y_ * 2 ^ min (Int.toNat (u64.wrap q6_7)) u64.bits)) (2 ^ min (Int.toNat (32:Int)) u64.bits)))) * (Int.fdiv (u64.wrap (y_ * 2 ^ min (Int.toNat (u64.wrap q6_7)) u64.bits)) (2 ^ min (Int.toNat (32:Int)) u64.bits)))))),(u64.wrap (Int.tdiv (u64.wrap ((u64.wrap ((u64.wrap ((bitsOf IntKind.u64 (fun p q=>p ||| q) (u64.wrap (hi * 2 ^ min (Int.toNat (u64.wrap q6_7)) u64.bits)) (Int.fdiv lo (2 ^ min (Int.toNat (u64.wrap ((64:Int) - (u64.wrap q6_7)))) u64.bits))) * (4294967296:Int))) + (Int.fdiv (u64.wrap (lo * 2 ^ min (Int.toNat (u64.wrap q6_7)) u64.bits)) (2 ^ min (Int.toNat (32:Int)) u64.bits)))) - (u64.wrap (z3 * (u64.wrap (y_ * 2 ^ min (Int.toNat (u64.wrap q6_7)) u64.bits)))))) (Int.fdiv (u64.wrap (y_ * 2 ^ min (Int.toNat (u64.wrap q6_7)) u64.bits)) (2 ^ min (Int.toNat (32:Int)) u64.bits))))) z7 (AI hz7 (AI (E4 [] (R10 (AI TV TV))) (AI (fun _ _ h=>lZ h) (AI (fun m=>curI (fun rhat=>fun q0 z q=>?_)) ?_))))
 ·have q : f219_l7 lo y_ q6_7 (loopF (fun go x=>f219_l7 lo y_ q6_7 go x.1 x.2) m) rhat q0 = some z := q
  unfold f219_l7 at q
  obtain ⟨z8,hz8,q⟩ := bE q
  refine OQ ⟨Sum.elim (fun z8a=>[(0,⟨[(2,.dat T4 (u64.wrap (y_ * 2 ^ min (Int.toNat (u64.wrap q6_7)) u64.bits))),(8,.dat T4 (u64.wrap q6_7)),(9,.dat T4 (Int.fdiv (u64.wrap (y_ * 2 ^ min (Int.toNat (u64.wrap q6_7)) u64.bits)) (2 ^ min (Int.toNat (32:Int)) u64.bits))),(10,.dat T4 (bitsOf IntKind.u64 (fun p q=>p &&& q) (u64.wrap (y_ * 2 ^ min (Int.toNat (u64.wrap q6_7)) u64.bits)) (4294967295:Int))),(14,.dat T4 (bitsOf IntKind.u64 (fun p q=>p &&& q) (u64.wrap (lo * 2 ^ min (Int.toNat (u64.wrap q6_7)) u64.bits)) (4294967295:Int))),(15,.dat T4 z3),(16,.dat T4 rhat),(17,.dat T4 (u64.wrap ((u64.wrap ((u64.wrap ((bitsOf IntKind.u64 (fun p q=>p ||| q) (u64.wrap (hi * 2 ^ min (Int.toNat (u64.wrap q6_7)) u64.bits)) (Int.fdiv lo (2 ^ min (Int.toNat (u64.wrap ((64:Int) - (u64.wrap q6_7)))) u64.bits))) * (4294967296:Int))) + (Int.fdiv (u64.wrap (lo * 2 ^ min (Int.toNat (u64.wrap q6_7)) u64.bits)) (2 ^ min (Int.toNat (32:Int)) u64.bits)))) - (u64.wrap (z3 * (u64.wrap (y_ * 2 ^ min (Int.toNat (u64.wrap q6_7)) u64.bits))))))),(18,.dat T4 q0)],[],0⟩)]) (fun z8b=>[(4,⟨[(2,.dat T4 (u64.wrap (y_ * 2 ^ min (Int.toNat (u64.wrap q6_7)) u64.bits))),(8,.dat T4 (u64.wrap q6_7)),(14,.dat T4 (bitsOf IntKind.u64 (fun p q=>p &&& q) (u64.wrap (lo * 2 ^ min (Int.toNat (u64.wrap q6_7)) u64.bits)) (4294967295:Int))),(15,.dat T4 z3),(17,.dat T4 (u64.wrap ((u64.wrap ((u64.wrap ((bitsOf IntKind.u64 (fun p q=>p ||| q) (u64.wrap (hi * 2 ^ min (Int.toNat (u64.wrap q6_7)) u64.bits)) (Int.fdiv lo (2 ^ min (Int.toNat (u64.wrap ((64:Int) - (u64.wrap q6_7)))) u64.bits))) * (4294967296:Int))) + (Int.fdiv (u64.wrap (lo * 2 ^ min (Int.toNat (u64.wrap q6_7)) u64.bits)) (2 ^ min (Int.toNat (32:Int)) u64.bits)))) - (u64.wrap (z3 * (u64.wrap (y_ * 2 ^ min (Int.toNat (u64.wrap q6_7)) u64.bits))))))),(18,.dat T4 q0)],[],0⟩)]) z8,?_,?_⟩
  ·have q := hz8
   clear hz8
   unfold f219_j8 at q
   refine OL (cN q (fun q=>?_) (fun q=>?_))
   ·refine gY (gY (gY (gY (gY (gY (gY (cF (cI q (fun q=>?_) (fun q=>?_)))))))))
    ·cases sE q
     refine E4 [] (R10 (AI TV TV))
    cases sE q
    refine E4 [] (R7 (AI TV TV))
   refine gN (gN (gN (gN (gN (gN (gN (cT (cT ?_))))))))
   cases sE q
   refine E4 [] (R10 (AI TV TV))
  rcases z8 with z8a | z8b
  ·dsimp only [sumF] at q
   refine AI (OL (OL (OL (cI q (fun q=>?_) (fun q=>?_))))) TV
   ·cases sE q
    refine E4 [] (R7 (AI TV TV))
   refine EI ((u64.wrap (rhat + (Int.fdiv (u64.wrap (y_ * 2 ^ min (Int.toNat (u64.wrap q6_7)) u64.bits)) (2 ^ min (Int.toNat (32:Int)) u64.bits)))),(u64.wrap (q0 - (1:Int)))) (AI q (E4 [] (R10 (AI TV TV))))
  dsimp only [sumF] at q
  refine AI ?_ TV
  cases sE q
  refine E4 [] (R7 (AI TV TV))
 refine AI (OL (gI q (fun q=>?_))) TV
 cases sE q
 refine AI rfl (E4 [] (R3 (AI TV TV)))
theorem C219_holds : HP C219 219 := hH Tryz.f219 (by kernel_rfl) rfl (fun x y q=>C219_vc x.1 x.2.1 x.2.2 y q)
theorem f219_in : InP 219 := inP (by kernel_rfl)
def f215_j3 (r2:Int) (r4 : Int×Int) : Option Bool :=
 bif (decide (r4.2 > (u64.wrap (r2 - r4.2)))) then
 some true
 else
 bif (r4.2 == (u64.wrap (r2 - r4.2))) then
 some ((bitsOf IntKind.u64 (fun p q=>p &&& q) r4.1 (1:Int)) == (1:Int))
 else
 some false
def f215_j2 (r2:Int) (r4 : Int×Int) : Option (Int×Int) :=
 bindF (f215_j3 r2 r4) fun z8 =>
 bif z8 then
 bindF (add64 r4.1 (1:Int) (0:Int)) fun r9 =>
 some (r9.1,r9.2)
 else
 some (r4.1,(0:Int))
def f215 (a:Int) (b:Int) : Option Int :=
 bif (b == (0:Int)) then
 bif (decide (a > (0:Int))) then
 some (9223372036854775807:Int)
 else
 bif (decide (a < (0:Int))) then
 some (-9223372036854775808:Int)
 else
 some (0:Int)
 else
 bindF (f194 a) fun r1 =>
 bindF (f194 b) fun r2 =>
 bif (decide ((Int.fdiv r1 (2 ^ min (Int.toNat (32:Int)) u64.bits)) ≥ r2)) then
 bindF (f195 (1:Int) (0:Int) (!((decide (a < (0:Int))) == (decide (b < (0:Int)))))) fun r3 =>
 some r3
 else
 bindF (f219 (Int.fdiv r1 (2 ^ min (Int.toNat (32:Int)) u64.bits)) (u64.wrap (r1 * 2 ^ min (Int.toNat (32:Int)) u64.bits)) r2) fun r4 =>
 bindF (f215_j2 r2 r4) fun z7 =>
 bindF (f195 z7.2 z7.1 (!((decide (a < (0:Int))) == (decide (b < (0:Int)))))) fun r10 =>
 some r10
def C215 : Con where
 X := Int×Int
 Y := Int
 e := 0
 args x := [.dat T2 x.1,.dat T2 x.2]
 hin x := []
 F x := f215 x.1 x.2
 ret y := [.dat T2 y]
 hout y := []
 nout := 0
theorem C215_vc (a:Int) (b:Int) (y:Int) (q : f215 a b = some y) : VC Tryz.f215 C215 (a,b) y := by
 unfold f215 at q
 refine OL (OL (OL (cI q (fun q=>?_) (fun q=>?_))))
 ·refine OL (OL (cI q (fun q=>?_) (fun q=>?_)))
  ·cases sE q
   refine OL (AI rfl (E4 [] (R2 (AI TV TV))))
  refine OL (cI q (fun q=>?_) (fun q=>?_))
  ·cases sE q
   refine OL (AI rfl (E4 [] (R2 (AI TV TV))))
  cases sE q
  refine OL (AI rfl (E4 [] (R2 (AI TV TV))))
 refine OL ?_
 obtain ⟨r1,hr1,q⟩ := bE q
 refine OL (AI f194_in (cV (cQ C194 a r1 [] false C194_holds hr1 rfl rfl (AI rfl (K0 ?_)))))
 obtain ⟨r2,hr2,q⟩ := bE q
 refine OL (AI f194_in (cV (cQ C194 b r2 [] false C194_holds hr2 rfl rfl (AI rfl (K0 (OL (OL (AI (by decide) (AI (by decide) (OL (OL (cI q (fun q=>?_) (fun q=>?_)))))))))))))
 ·refine OL ?_
  obtain ⟨r3,hr3,q⟩ := bE q
  refine OL (AI f195_in (cV (cQ C195 ((1:Int),(0:Int),(!((decide (a < (0:Int))) == (decide (b < (0:Int)))))) r3 [] false C195_holds hr3 rfl rfl (R3 (K0 ?_)))))
  cases sE q
  refine AI rfl (E4 [] (R2 (AI TV TV)))
 refine OL ?_
 obtain ⟨r4,hr4,q⟩ := bE q
 refine OL (AI f219_in (cV (cQ C219 ((Int.fdiv r1 (2 ^ min (Int.toNat (32:Int)) u64.bits)),(u64.wrap (r1 * 2 ^ min (Int.toNat (32:Int)) u64.bits)),r2) r4 [] false C219_holds hr4 rfl rfl (R3 (K0 (OL ?_))))))
 obtain ⟨z7,hz7,q⟩ := bE q
 refine OQ ⟨[(0,⟨[(7,.dat .bool (!((decide (a < (0:Int))) == (decide (b < (0:Int)))))),(10,.dat T4 z7.1),(12,.dat T4 z7.2)],[],0⟩)],?_,?_⟩
 ·have q := hz7
  clear hz7
  unfold f215_j2 at q
  obtain ⟨z8,hz8,q⟩ := bE q
  refine OQ ⟨[(0,⟨[(7,.dat .bool (!((decide (a < (0:Int))) == (decide (b < (0:Int)))))),(10,.dat T4 r4.1),(12,.dat T4 (0:Int)),(62,.dat .bool z8)],[],0⟩)],?_,?_⟩
  ·have q := hz8
   clear hz8
   unfold f215_j3 at q
   refine cN q (fun q=>?_) (fun q=>?_)
   ·refine gY (gY (gY (gY (gY (cI q (fun q=>?_) (fun q=>?_))))))
    ·refine gX (gX (gY (cT (cF ?_))))
     cases sE q
     refine E4 [] (R5 (AI TV TV))
    refine gM (gM (gY (cF (cF ?_))))
    cases sE q
    refine E4 [] (R5 (AI TV TV))
   refine gN (gN (gN (gN (gN (gN (cT ?_))))))
   cases sE q
   refine E4 [] (R5 (AI TV TV))
  refine AI (cI q (fun q=>?_) (fun q=>?_)) TV
  ·obtain ⟨r9,hr9,q⟩ := bE q
   refine OQ ⟨ext3 add64,[r9.1,r9.2],add64_ok,AI (ext3I hr9) ?_⟩
   cases sE q
   refine E4 [] (R4 (AI TV TV))
  cases sE q
  refine E4 [] (R4 (AI TV TV))
 refine AI (OL ?_) TV
 obtain ⟨r10,hr10,q⟩ := bE q
 refine OL (AI f195_in (cV (cQ C195 (z7.2,z7.1,(!((decide (a < (0:Int))) == (decide (b < (0:Int)))))) r10 [] false C195_holds hr10 rfl rfl (R3 (K0 ?_)))))
 cases sE q
 refine AI rfl (E4 [] (R2 (AI TV TV)))
theorem C215_holds : HP C215 215 := hH Tryz.f215 (by kernel_rfl) rfl (fun x y q=>C215_vc x.1 x.2 y q)
theorem f215_in : InP 215 := inP (by kernel_rfl)
def f217 (a : Int×Int) : Option (Int×Int×Bool) :=
 bif (decide (a.1 < (0:Int))) then
 bindF (f221 (a.1,a.2)) fun q4_7 =>
 some ((u64.wrap q4_7.1),q4_7.2,true)
 else
 some ((u64.wrap a.1),a.2,false)
def C217 : Con where
 X := Int×Int
 Y := Int×Int×Bool
 e := 0
 args x := [.dat T5 x]
 hin x := []
 F x := f217 x
 ret y := [.dat T4 y.1,.dat T4 y.2.1,.dat .bool y.2.2]
 hout y := []
 nout := 0
theorem C217_vc (a : Int×Int) (y : Int×Int×Bool) (q : f217 a = some y) : VC Tryz.f217 C217 a y := by
 unfold f217 at q
 refine OL (OL (OL (cI q (fun q=>?_) (fun q=>?_))))
 ·refine OL ?_
  obtain ⟨q4_7,hq4_7,q⟩ := bE q
  refine OL (AI f221_in (cV (cQ C221 (a.1,a.2) q4_7 [] false C221_holds hq4_7 rfl rfl (R2 (K0 (OL (OL (EI (.take 0 (.take 1 (.take 2 (.take 3 (.take 4 (.take 5 (.take 6 (.take 7 .done)))))))) (EI [] (EI [] (AI rfl ?_)))))))))))
  cases sE q
  refine AI rfl (E4 [] (R4 (AI TV TV)))
 refine OL (EI (.take 0 (.take 1 (.take 2 (.take 3 (.take 4 (.take 5 (.take 6 (.take 7 .done)))))))) (EI [] (EI [] (AI rfl ?_))))
 cases sE q
 refine AI rfl (E4 [] (R4 (AI TV TV)))
theorem C217_holds : HP C217 217 := hH Tryz.f217 (by kernel_rfl) rfl (fun x y q=>C217_vc x y q)
theorem f217_in : InP 217 := inP (by kernel_rfl)
end Go.Proofs
