import Derived.Test.YtoicgngppmpapaaGreatGradPartsS1
set_option linter.unusedVariables false
set_option maxRecDepth 100000
set_option maxHeartbeats 8000000
namespace Go.Proofs
open Go.AM
open IntKind (i64 u64 i32 u32 i16 u16 i8 u8)
def f170_j3 (r4:Int) (q6_7 : Int×Int) : Option Bool :=
 bif (decide (q6_7.2 > (u64.wrap (r4 - q6_7.2)))) then
 some true
 else
 bif (q6_7.2 == (u64.wrap (r4 - q6_7.2))) then
 some ((bitsOf IntKind.u64 (fun p q=>p &&& q) q6_7.1 (1:Int)) == (1:Int))
 else
 some false
def f170_j2 (r3 : Int×Int×Bool) (r4:Int) (q6_7 : Int×Int) : Option (Int×Int) :=
 bindF (f170_j3 r4 q6_7) fun z8 =>
 bif z8 then
 bindF (add64 q6_7.1 (1:Int) (0:Int)) fun r9 =>
 some ((u64.wrap ((u64.wrap (Int.tdiv r3.1 r4)) + r9.2)),r9.1)
 else
 some ((u64.wrap (Int.tdiv r3.1 r4)),q6_7.1)
def f170 (a : Int×Int) (n:Int) : Option Int :=
 bif (n == (0:Int)) then
 bindF (f216 (a.1,a.2) ((0:Int),(0:Int))) fun r1 =>
 bindF (f215 r1 (0:Int)) fun r2 =>
 some r2
 else
 bindF (f217 (a.1,a.2)) fun r3 =>
 bindF (f218 n) fun r4 =>
 guardF (r4 ≠ 0) <|
 guardF (r4 ≠ 0) <|
 bindF (f219 (Int.tmod r3.1 r4) r3.2.1 r4) fun q6_7 =>
 bindF (f170_j2 r3 r4 q6_7) fun z7 =>
 bif (!(r3.2.2 == (decide (n < (0:Int))))) then
 bindF (f221 ((i64.wrap (if (9223372036854775807:Int) < z7.1 then (9223372036854775807:Int) else z7.1)),z7.2)) fun r10 =>
 bindF (f220 (r10.1,r10.2)) fun r11 =>
 some r11
 else
 bindF (f220 ((i64.wrap (if (9223372036854775807:Int) < z7.1 then (9223372036854775807:Int) else z7.1)),z7.2)) fun r12 =>
 some r12
def C170 : Con where
 X := (Int×Int)×Int
 Y := Int
 e := 0
 args x := [.dat T5 x.1,.dat T2 x.2]
 hin x := []
 F x := f170 x.1 x.2
 ret y := [.dat T2 y]
 hout y := []
 nout := 0
theorem C170_vc (a : Int×Int) (n:Int) (y:Int) (q : f170 a n = some y) : VC Tryz.f170 C170 (a,n) y := by
 unfold f170 at q
 refine OL (OL (OL (cI q (fun q=>?_) (fun q=>?_))))
 ·refine OL ?_
  obtain ⟨r1,hr1,q⟩ := bE q
  refine OL (AI f216_in (cV (cQ C216 ((a.1,a.2),((0:Int),(0:Int))) r1 [] false C216_holds hr1 rfl rfl (R4 (K0 ?_)))))
  obtain ⟨r2,hr2,q⟩ := bE q
  refine OL (AI f215_in (cV (cQ C215 (r1,(0:Int)) r2 [] false C215_holds hr2 rfl rfl (R2 (K0 ?_)))))
  cases sE q
  refine AI rfl (E4 [] (R2 (AI TV TV)))
 refine OL ?_
 obtain ⟨r3,hr3,q⟩ := bE q
 refine OL (AI f217_in (cV (cQ C217 (a.1,a.2) r3 [] false C217_holds hr3 rfl rfl (R2 (K0 (OL ?_))))))
 obtain ⟨r4,hr4,q⟩ := bE q
 refine OL (AI f218_in (cV (cQ C218 n r4 [] false C218_holds hr4 rfl rfl (AI rfl (K0 (OL (OL (EI (.take 0 (.take 1 (.take 2 (.take 3 (.take 4 (.take 5 (.take 6 (.take 7 .done)))))))) (EI [] (EI [] (AI rfl (gI q (fun q=>?_)))))))))))))
 refine gI q (fun q=>?_)
 refine OL ?_
 obtain ⟨q6_7,hq6_7,q⟩ := bE q
 refine OL (AI f219_in (cV (cQ C219 ((Int.tmod r3.1 r4),r3.2.1,r4) q6_7 [] false C219_holds hq6_7 rfl rfl (R3 (K0 ?_)))))
 obtain ⟨z7,hz7,q⟩ := bE q
 refine OQ ⟨[(0,⟨[(7,.dat .bool (!(r3.2.2 == (decide (n < (0:Int)))))),(9,.dat T4 z7.1),(11,.dat T4 z7.2)],[],0⟩)],?_,?_⟩
 ·have q := hz7
  clear hz7
  unfold f170_j2 at q
  obtain ⟨z8,hz8,q⟩ := bE q
  refine OQ ⟨[(0,⟨[(7,.dat .bool (!(r3.2.2 == (decide (n < (0:Int)))))),(9,.dat T4 (u64.wrap (Int.tdiv r3.1 r4))),(11,.dat T4 q6_7.1),(61,.dat .bool z8)],[],0⟩)],?_,?_⟩
  ·have q := hz8
   clear hz8
   unfold f170_j3 at q
   refine cN q (fun q=>?_) (fun q=>?_)
   ·refine gY (gY (gY (gY (gY (cI q (fun q=>?_) (fun q=>?_))))))
    ·refine gX (gX (gY (cT (cF ?_))))
     cases sE q
     refine E4 [] (R5 (AI TV TV))
    refine gM (gM (gY (cF (cF ?_))))
    cases sE q
    refine E4 [] (R5 (AI TV TV))
   refine gN (gN (gN (gN (gN (gN (cT ?_))))))
   cases sE q
   refine E4 [] (R5 (AI TV TV))
  refine AI (cI q (fun q=>?_) (fun q=>?_)) TV
  ·refine OL (OL ?_)
   obtain ⟨r9,hr9,q⟩ := bE q
   refine OQ ⟨ext3 add64,[r9.1,r9.2],add64_ok,AI (ext3I hr9) ?_⟩
   cases sE q
   refine E4 [] (R4 (AI TV TV))
  cases sE q
  refine E4 [] (R4 (AI TV TV))
 refine AI (OL (OL (OL (OL (cI q (fun q=>?_) (fun q=>?_)))))) TV
 ·refine OL ?_
  obtain ⟨r10,hr10,q⟩ := bE q
  refine OL (AI f221_in (cV (cQ C221 ((i64.wrap (if (9223372036854775807:Int) < z7.1 then (9223372036854775807:Int) else z7.1)),z7.2) r10 [] false C221_holds hr10 rfl rfl (R2 (K0 ?_)))))
  obtain ⟨r11,hr11,q⟩ := bE q
  refine OL (AI f220_in (cV (cQ C220 (r10.1,r10.2) r11 [] false C220_holds hr11 rfl rfl (R2 (K0 ?_)))))
  cases sE q
  refine AI rfl (E4 [] (R2 (AI TV TV)))
 refine OL ?_
 obtain ⟨r12,hr12,q⟩ := bE q
 refine OL (AI f220_in (cV (cQ C220 ((i64.wrap (if (9223372036854775807:Int) < z7.1 then (9223372036854775807:Int) else z7.1)),z7.2) r12 [] false C220_holds hr12 rfl rfl (R2 (K0 ?_)))))
 cases sE q
 refine AI rfl (E4 [] (R2 (AI TV TV)))
theorem C170_holds : HP C170 170 := hH Tryz.f170 (by kernel_rfl) rfl (fun x y q=>C170_vc x.1 x.2 y q)
theorem f170_in : InP 170 := inP (by kernel_rfl)
def f204 (a : LI×LI) : Option (Int×Int) :=
 bindF (f59 (a.1,a.2)) fun q3_8 =>
 bif (!q3_8) then
 some ((0:Int),(1:Int))
 else
 bindF (f236 a.2) fun q3_2 =>
 bindF (f170 (q3_2.1,q3_2.2) (List.length a.2:Int)) fun q3_6 =>
 some (q3_6,(0:Int))
def C204 : Con where
 X := LI×LI
 Y := Int×Int
 e := 0
 args x := [.dat T3 x]
 hin x := []
 F x := f204 x
 ret y := [.dat T2 y.1,.dat T2 y.2]
 hout y := []
 nout := 0
theorem C204_vc (a : LI×LI) (y : Int×Int) (q : f204 a = some y) : VC Tryz.f204 C204 a y := by
 unfold f204 at q
 refine OL (OL (OL ?_))
 obtain ⟨q3_8,hq3_8,q⟩ := bE q
 refine OL (AI f59_in (cV (cQ C59 (a.1,a.2) q3_8 [] false C59_holds hq3_8 rfl rfl (R2 (K0 (cI q (fun q=>?_) (fun q=>?_)))))))
 ·cases sE q
  refine OL (AI rfl (E4 [] (R3 (AI TV TV))))
 refine OL (EI (.take 0 (.take 1 (.take 3 (.take 4 (.take 5 (.alt 2 (.alt 6 (.take 7 (.take 8 .done)) .done) .done)))))) (EI [] (EI [] (AI rfl (AI TV ?_)))))
 obtain ⟨q3_2,hq3_2,q⟩ := bE q
 refine OL (AI f236_in (cV (cQ C236 a.2 q3_2 [] false C236_holds hq3_2 rfl rfl (AI rfl (K0 (AI TV ?_))))))
 obtain ⟨q3_6,hq3_6,q⟩ := bE q
 refine OL (AI f170_in (cV (cQ C170 ((q3_2.1,q3_2.2),(List.length a.2:Int)) q3_6 [] false C170_holds hq3_6 rfl rfl (R3 (K0 ?_)))))
 cases sE q
 refine AI rfl (E4 [] (R3 (AI TV TV)))
theorem C204_holds : HP C204 204 := hH Tryz.f204 (by kernel_rfl) rfl (fun x y q=>C204_vc x y q)
theorem f204_in : InP 204 := inP (by kernel_rfl)
def f222 (kind:Int) : Option Bool :=
 bif (decide (kind ≥ (1:Int))) then
 some (decide (kind ≤ (5:Int)))
 else
 some false
def C222 : Con where
 X := Int
 Y := Bool
 e := 0
 args x := [.dat T2 x]
 hin x := []
 F x := f222 x
 ret y := [.dat .bool y]
 hout y := []
 nout := 0
theorem C222_vc (kind:Int) (y : Bool) (q : f222 kind = some y) : VC Tryz.f222 C222 kind y := by
 unfold f222 at q
 refine OL (OL (cI q (fun q=>?_) (fun q=>?_)))
 ·refine gX (cT ?_)
  cases sE q
  refine AI rfl (E4 [] (R2 (AI TV TV)))
 refine gM (cF ?_)
 cases sE q
 refine AI rfl (E4 [] (R2 (AI TV TV)))
theorem C222_holds : HP C222 222 := hH Tryz.f222 (by kernel_rfl) rfl (fun x y q=>C222_vc x y q)
theorem f222_in : InP 222 := inP (by kernel_rfl)
def f250 (n:Int) : Option Int :=
 bif (decide (n ≥ (2147483648:Int))) then
 some (9223372036854775807:Int)
 else
 bif (decide (n < (-2147483648:Int))) then
 some (-9223372036854775808:Int)
 else
 some (i64.wrap (n * 2 ^ min (Int.toNat (32:Int)) i64.bits))
def C250 : Con where
 X := Int
 Y := Int
 e := 0
 args x := [.dat T2 x]
 hin x := []
 F x := f250 x
 ret y := [.dat T2 y]
 hout y := []
 nout := 0
theorem C250_vc (n:Int) (y:Int) (q : f250 n = some y) : VC Tryz.f250 C250 n y := by
 unfold f250 at q
 refine OL (OL (OL (cI q (fun q=>?_) (fun q=>?_))))
 ·cases sE q
  refine OL (AI rfl (E4 [] (R2 (AI TV TV))))
 refine OL (cI q (fun q=>?_) (fun q=>?_))
 ·cases sE q
  refine OL (AI rfl (E4 [] (R2 (AI TV TV))))
 refine OL (AI (by decide) ?_)
 cases sE q
 refine AI rfl (E4 [] (R2 (AI TV TV)))
theorem C250_holds : HP C250 250 := hH Tryz.f250 (by kernel_rfl) rfl (fun x y q=>C250_vc x y q)
theorem f250_in : InP 250 := inP (by kernel_rfl)
def f251 (x_:Int) (lo:Int) (hi:Int) : Option Int :=
 some (if hi < (if lo > x_ then lo else x_) then hi else (if lo > x_ then lo else x_))
def C251 : Con where
 X := Int×Int×Int
 Y := Int
 e := 0
 args x := [.dat T2 x.1,.dat T2 x.2.1,.dat T2 x.2.2]
 hin x := []
 F x := f251 x.1 x.2.1 x.2.2
 ret y := [.dat T2 y]
 hout y := []
 nout := 0
theorem C251_vc (x_:Int) (lo:Int) (hi:Int) (y:Int) (q : f251 x_ lo hi = some y) : VC Tryz.f251 C251 (x_,lo,hi) y := by
 unfold f251 at q
 refine OL (OL ?_)
 cases sE q
 refine AI rfl (E4 [] (R2 (AI TV TV)))
theorem C251_holds : HP C251 251 := hH Tryz.f251 (by kernel_rfl) rfl (fun x y q=>C251_vc x.1 x.2.1 x.2.2 y q)
theorem f251_in : InP 251 := inP (by kernel_rfl)
def f252 (a:Int) : Option Int :=
 bif (a == (-9223372036854775808:Int)) then
 some (9223372036854775807:Int)
 else
 some (i64.wrap (0 - a))
def C252 : Con where
 X := Int
 Y := Int
 e := 0
 args x := [.dat T2 x]
 hin x := []
 F x := f252 x
 ret y := [.dat T2 y]
 hout y := []
 nout := 0
theorem C252_vc (a:Int) (y:Int) (q : f252 a = some y) : VC Tryz.f252 C252 a y := by
 unfold f252 at q
 refine OL (OL (OL (cI q (fun q=>?_) (fun q=>?_))))
 ·cases sE q
  refine OL (AI rfl (E4 [] (R2 (AI TV TV))))
 cases sE q
 refine OL (AI rfl (E4 [] (R2 (AI TV TV))))
theorem C252_holds : HP C252 252 := hH Tryz.f252 (by kernel_rfl) rfl (fun x y q=>C252_vc x y q)
theorem f252_in : InP 252 := inP (by kernel_rfl)
def f237 (kind:Int) (x_:Int) : Option (Int×Int) :=
 bif (kind == (1:Int)) then
 some ((if (0:Int) > x_ then (0:Int) else x_),(0:Int))
 else
 bif (kind == (2:Int)) then
 bif (decide (x_ > (0:Int))) then
 some (x_,(0:Int))
 else
 bindF (f250 (8:Int)) fun r1 =>
 bindF (f215 x_ r1) fun r2 =>
 some (r2,(0:Int))
 else
 bif (kind == (3:Int)) then
 bindF (f251 x_ (-4294967296:Int) (4294967296:Int)) fun r3 =>
 some (r3,(0:Int))
 else
 bif (kind == (4:Int)) then
 bif (decide (x_ < (0:Int))) then
 bindF (f252 x_) fun r4 =>
 some (r4,(0:Int))
 else
 some (x_,(0:Int))
 else
 bif (kind == (5:Int)) then
 bindF (f250 (2:Int)) fun r5 =>
 bindF (f215 x_ r5) fun r6 =>
 bindF (f143 r6 (2147483648:Int)) fun r7 =>
 bindF (f251 r7 (0:Int) (4294967296:Int)) fun r8 =>
 some (r8,(0:Int))
 else
 some ((0:Int),(1:Int))
def C237 : Con where
 X := Int×Int
 Y := Int×Int
 e := 0
 args x := [.dat T2 x.1,.dat T2 x.2]
 hin x := []
 F x := f237 x.1 x.2
 ret y := [.dat T2 y.1,.dat T2 y.2]
 hout y := []
 nout := 0
theorem C237_vc (kind:Int) (x_:Int) (y : Int×Int) (q : f237 kind x_ = some y) : VC Tryz.f237 C237 (kind,x_) y := by
 unfold f237 at q
 refine OL (OL (OL (OL (cI q (fun q=>?_) (fun q=>?_)))))
 ·cases sE q
  refine OL (AI rfl (E4 [] (R3 (AI TV TV))))
 refine OL (cI q (fun q=>?_) (fun q=>?_))
 ·refine OL (OL (cI q (fun q=>?_) (fun q=>?_)))
  ·cases sE q
   refine OL (AI rfl (E4 [] (R3 (AI TV TV))))
  refine OL ?_
  obtain ⟨r1,hr1,q⟩ := bE q
  refine OL (AI f250_in (cV (cQ C250 (8:Int) r1 [] false C250_holds hr1 rfl rfl (AI rfl (K0 ?_)))))
  obtain ⟨r2,hr2,q⟩ := bE q
  refine OL (AI f215_in (cV (cQ C215 (x_,r1) r2 [] false C215_holds hr2 rfl rfl (R2 (K0 ?_)))))
  cases sE q
  refine AI rfl (E4 [] (R3 (AI TV TV)))
 refine OL (cI q (fun q=>?_) (fun q=>?_))
 ·refine OL ?_
  obtain ⟨r3,hr3,q⟩ := bE q
  have hr3 : C251.F (x_,(-4294967296:Int),(4294967296:Int)) = some r3 := hr3
  refine OL (AI f251_in (cV (cQ C251 _ r3 [] false C251_holds hr3 rfl rfl (R3 (K0 ?_)))))
  cases sE q
  refine AI rfl (E4 [] (R3 (AI TV TV)))
 refine OL (cI q (fun q=>?_) (fun q=>?_))
 ·refine OL (OL (cI q (fun q=>?_) (fun q=>?_)))
  ·refine OL ?_
   obtain ⟨r4,hr4,q⟩ := bE q
   refine OL (AI f252_in (cV (cQ C252 x_ r4 [] false C252_holds hr4 rfl rfl (AI rfl (K0 ?_)))))
   cases sE q
   refine AI rfl (E4 [] (R3 (AI TV TV)))
  cases sE q
  refine OL (AI rfl (E4 [] (R3 (AI TV TV))))
 refine OL (cI q (fun q=>?_) (fun q=>?_))
 ·refine OL ?_
  obtain ⟨r5,hr5,q⟩ := bE q
  refine OL (AI f250_in (cV (cQ C250 (2:Int) r5 [] false C250_holds hr5 rfl rfl (AI rfl (K0 ?_)))))
  obtain ⟨r6,hr6,q⟩ := bE q
  refine OL (AI f215_in (cV (cQ C215 (x_,r5) r6 [] false C215_holds hr6 rfl rfl (R2 (K0 ?_)))))
  obtain ⟨r7,hr7,q⟩ := bE q
  refine OL (AI f143_in (cV (cQ C143 (r6,(2147483648:Int)) r7 [] false C143_holds hr7 rfl rfl (R2 (K0 ?_)))))
  obtain ⟨r8,hr8,q⟩ := bE q
  refine OL (AI f251_in (cV (cQ C251 (r7,(0:Int),(4294967296:Int)) r8 [] false C251_holds hr8 rfl rfl (R3 (K0 ?_)))))
  cases sE q
  refine AI rfl (E4 [] (R3 (AI TV TV)))
 cases sE q
 refine OL (AI rfl (E4 [] (R3 (AI TV TV))))
theorem C237_holds : HP C237 237 := hH Tryz.f237 (by kernel_rfl) rfl (fun x y q=>C237_vc x.1 x.2 y q)
theorem f237_in : InP 237 := inP (by kernel_rfl)
def f205_j3 (kind:Int) (t : LI×LI) : Option Bool :=
 bindF (f222 kind) fun r9 =>
 bif (!r9) then
 some true
 else
 bindF (f59 (t.1,t.2)) fun r10 =>
 some (!r10)
def f205_j2 (kind:Int) (t : LI×LI) : Option (Sum Unit Unit) :=
 bindF (f205_j3 kind t) fun z8 =>
 bif z8 then
 some (Sum.inr ())
 else
 some (Sum.inl ())
def f205_l4 (kind:Int) (t : LI×LI) (go : (Int×LI) → Option LI) (v23:Int) (l3 : LI) : Option LI :=
 bif (decide (v23 < (List.length t.2:Int))) then
 guardF (0 ≤ v23 ∧ v23 < (List.length t.2:Int)) <|
 bindF (f237 kind (rd (0:Int) t.2 v23)) fun q7_5 =>
 guardF (0 ≤ v23 ∧ v23 < (List.length l3:Int)) <|
 go ((i64.wrap (v23 + (1:Int))),(List.set l3 (Int.toNat v23) q7_5.1))
 else
 some l3
def f205 (kind:Int) (t : LI×LI) : Option (Int×LI×LI) :=
 bindF (f205_j2 kind t) fun z5 =>
 sumF z5 (fun z5a =>
 bindF (f61 (t.1,t.2)) fun r11 =>
 bindF (loopF (fun go x=>f205_l4 kind t go x.1 x.2) fuelN ((0:Int),r11.2)) fun z12 =>
 some ((0:Int),r11.1,z12)) (fun z5b =>
 some ((1:Int),[],[]))
def C205 : Con where
 X := Int×(LI×LI)
 Y := Int×LI×LI
 e := 0
 args x := [.dat T2 x.1,.dat T3 x.2]
 hin x := []
 F x := f205 x.1 x.2
 ret y := [.raw true [(.osl 0),(.osl 1)],.dat T2 y.1]
 hout y := [(0,.arr 3 T2 y.2.1),(1,.arr 40 T2 y.2.2)]
 nout := 2
theorem C205_vc (kind:Int) (t : LI×LI) (y : Int×LI×LI) (q : f205 kind t = some y) : VC Tryz.f205 C205 (kind,t) y := by
 unfold f205 at q
 refine OL ?_
 obtain ⟨z5,hz5,q⟩ := bE q
 refine OQ ⟨Sum.elim (fun z5a=>[(0,⟨[(0,.dat T2 kind),(3,P0 0 0),(4,P0 1 0)],[(0,.cells [(.d T1 t.1),(.d T1 t.2)]),(1,.cells [N0,N0])],2⟩)]) (fun z5b=>[(1,⟨[(4,P0 0 0),(5,D0 1)],[(0,.cells [N0,N0])],1⟩)]) z5,?_,?_⟩
 ·have q := hz5
  clear hz5
  unfold f205_j2 at q
  obtain ⟨z8,hz8,q⟩ := bE q
  refine OQ ⟨[(0,⟨[(0,.dat T2 kind),(3,P0 0 0),(4,P0 1 0),(16,.dat .bool z8)],[(0,.cells [(.d T1 t.1),(.d T1 t.2)]),(1,.cells [N0,N0])],2⟩)],?_,?_⟩
  ·have q := hz8
   clear hz8
   unfold f205_j3 at q
   obtain ⟨r9,hr9,q⟩ := bE q
   refine OL (AI f222_in (cV (cQ C222 kind r9 [] false C222_holds hr9 rfl rfl (AI rfl (K0 (cN q (fun q=>?_) (fun q=>?_)))))))
   ·refine gY ?_
    obtain ⟨r10,hr10,q⟩ := bE q
    refine OL (AI f59_in (cV (cQ C59 (t.1,t.2) r10 [] false C59_holds hr10 rfl rfl (R2 (K0 (gY (cF ?_)))))))
    cases sE q
    refine E4 I2 (R3 (AI (R2 TV) (R2 TV)))
   refine gN (gN (cT ?_))
   cases sE q
   refine E4 I2 (R3 (AI (R2 TV) (R2 TV)))
  refine AI (cI q (fun q=>?_) (fun q=>?_)) TV
  ·refine OL (OL ?_)
   cases sE q
   refine E4 [(0,some 1)] (R2 (AJ (AI rfl TV)))
  cases sE q
  refine E4 I2 (R2 (AI (R2 TV) (R2 TV)))
 rcases z5 with z5a | z5b
 ·dsimp only [sumF] at q
  refine AI (OL ?_) TV
  obtain ⟨r11,hr11,q⟩ := bE q
  refine OL (AI f61_in (cV (cQ C61 (t.1,t.2) r11 [] false C61_holds hr11 rfl rfl (R2 (K0 (OL (OL (OL ?_))))))))
  obtain ⟨z12,hz12,q⟩ := bE q
  refine lI (Int×LI) LI (fun x=>⟨[(0,.dat T2 kind),(4,P0 0 0),(6,P0 1 0),(21,.dat T1 t.2),(22,.dat T2 (List.length t.2:Int)),(23,.dat T2 x.1)],[(0,.cells [N0,N0]),(1,.cells [(.osl 2),(.osl 3)]),(2,.arr 3 T2 r11.1),(3,.arr 40 T2 x.2)],4⟩) (fun z=>[(2,⟨[(4,P0 0 0),(6,P0 1 0)],[(0,.cells [N0,N0]),(1,.cells [(.osl 2),(.osl 3)]),(2,.arr 3 T2 r11.1),(3,.arr 40 T2 z)],4⟩)]) (loopF (fun go x=>f205_l4 kind t go x.1 x.2)) fuelN ((0:Int),r11.2) z12 (AI hz12 (AI (E4 [(0,some 1),(1,some 4),(2,some 2),(3,some 3)] (R5 (AI (R2 TV) (R4 TV)))) (AI (fun _ _ h=>lZ h) (AI (fun m=>curI (fun v23=>fun l3 z q=>?_)) ?_))))
  ·have q : f205_l4 kind t (loopF (fun go x=>f205_l4 kind t go x.1 x.2) m) v23 l3 = some z := q
   unfold f205_l4 at q
   refine OL (OL (cI q (fun q=>?_) (fun q=>?_)))
   ·refine OL (OL (gI q (fun q=>?_)))
    refine EI (.take 0 (.take 1 (.take 2 (.take 3 (.take 4 (.alt 5 (.take 6 (.take 7 (.take 8 (.take 9 (.alt 10 .done .done))))) .done)))))) (EI [] (EI [] (AI rfl (AI TV ?_))))
    obtain ⟨q7_5,hq7_5,q⟩ := bE q
    refine OL (AI f237_in (cV (cQ C237 (kind,(rd (0:Int) t.2 v23)) q7_5 [] false C237_holds hq7_5 rfl rfl (R2 (K0 (gI q (fun q=>?_)))))))
    refine AI TV (OL (EI ((i64.wrap (v23 + (1:Int))),(List.set l3 (Int.toNat v23) q7_5.1)) (AI q (E4 I4 (R5 (AI (R2 TV) (R4 TV)))))))
   cases sE q
   refine E4 I4 (AI rfl (AI (R2 TV) (R4 TV)))
  refine AI (OL (OL ?_)) TV
  cases sE q
  refine AI rfl (E4 [(0,some 2),(1,some 3)] (R2 (AJ (R2 TV))))
 dsimp only [sumF] at q
 refine AI ?_ TV
 cases sE q
 refine AI rfl (E4 [(0,none),(1,none)] (R2 (AJ (R2 TV))))
theorem C205_holds : HP C205 205 := hH Tryz.f205 (by kernel_rfl) rfl (fun x y q=>C205_vc x.1 x.2 y q)
theorem f205_in : InP 205 := inP (by kernel_rfl)
def f206_j3 (a : LI×LI) (wid:Int) : Option Bool :=
 bif (decide (wid < (1:Int))) then
 some true
 else
 guardF (0 ≤ (1:Int) ∧ (1:Int) < (List.length a.1:Int)) <|
 some (decide (wid > (rd (0:Int) a.1 (1:Int))))
def f206_j2 (a : LI×LI) (wid:Int) : Option (Sum Unit Int) :=
 bindF (f59 (a.1,a.2)) fun r4 =>
 bif (!r4) then
 some (Sum.inr (1:Int))
 else
 bif ((List.length a.1:Int) != (2:Int)) then
 some (Sum.inr (4:Int))
 else
 bindF (f206_j3 a wid) fun z5 =>
 bif z5 then
 some (Sum.inr (1:Int))
 else
 some (Sum.inl ())
def f206_l7 (a : LI×LI) (wid:Int) (v61:Int) (go : (Int×Int) → Option Int) (best:Int) (at_:Int) : Option Int :=
 guardF ((i64.wrap (Int.tdiv (rd (0:Int) a.1 (1:Int)) wid)) ≠ 0) <|
 guardF ((i64.wrap (Int.tdiv (rd (0:Int) a.1 (1:Int)) wid)) ≠ 0) <|
 bif (decide (at_ < (i64.wrap ((i64.wrap ((i64.wrap ((i64.wrap (Int.tdiv v61 (i64.wrap (Int.tdiv (rd (0:Int) a.1 (1:Int)) wid)))) * (rd (0:Int) a.1 (1:Int)))) + (i64.wrap ((Int.tmod v61 (i64.wrap (Int.tdiv (rd (0:Int) a.1 (1:Int)) wid))) * wid)))) + wid)))) then
 guardF (0 ≤ at_ ∧ at_ < (List.length a.2:Int)) <|
 guardF (0 ≤ best ∧ best < (List.length a.2:Int)) <|
 bif (decide ((rd (0:Int) a.2 at_) > (rd (0:Int) a.2 best))) then
 go (at_,(i64.wrap (at_ + (1:Int))))
 else
 go (best,(i64.wrap (at_ + (1:Int))))
 else
 some best
def f206_l6 (a : LI×LI) (wid:Int) (q7_11 : Int×LI×LI) (go : (Int×LI×LI) → Option (LI×LI)) (v61:Int) (l3 : LI) (l5 : LI) : Option (LI×LI) :=
 bif (decide (v61 < (List.length q7_11.2.2:Int))) then
 guardF ((i64.wrap (Int.tdiv (rd (0:Int) a.1 (1:Int)) wid)) ≠ 0) <|
 guardF ((i64.wrap (Int.tdiv (rd (0:Int) a.1 (1:Int)) wid)) ≠ 0) <|
 bindF (loopF (fun go x=>f206_l7 a wid v61 go x.1 x.2) fuelN ((i64.wrap ((i64.wrap ((i64.wrap (Int.tdiv v61 (i64.wrap (Int.tdiv (rd (0:Int) a.1 (1:Int)) wid)))) * (rd (0:Int) a.1 (1:Int)))) + (i64.wrap ((Int.tmod v61 (i64.wrap (Int.tdiv (rd (0:Int) a.1 (1:Int)) wid))) * wid)))),(i64.wrap ((i64.wrap ((i64.wrap ((i64.wrap (Int.tdiv v61 (i64.wrap (Int.tdiv (rd (0:Int) a.1 (1:Int)) wid)))) * (rd (0:Int) a.1 (1:Int)))) + (i64.wrap ((Int.tmod v61 (i64.wrap (Int.tdiv (rd (0:Int) a.1 (1:Int)) wid))) * wid)))) + (1:Int))))) fun z9 =>
 guardF (0 ≤ z9 ∧ z9 < (List.length a.2:Int)) <|
 guardF (0 ≤ v61 ∧ v61 < (List.length l5:Int)) <|
 guardF ((List.length l3 + List.length ([z9])) * 8 ≤ 140737488355328) <|
 go ((i64.wrap (v61 + (1:Int))),(l3 ++ ([z9])),(List.set l5 (Int.toNat v61) (rd (0:Int) a.2 z9)))
 else
 some (l3,l5)
def f206 (a : LI×LI) (wid:Int) : Option (Int×LI×LI×LI) :=
 bindF (f206_j2 a wid) fun z3 =>
 sumF z3 (fun z3a =>
 guardF (0 ≤ (1:Int) ∧ (1:Int) < (List.length a.1:Int)) <|
 guardF (0 ≤ (1:Int) ∧ (1:Int) < (List.length a.1:Int)) <|
 guardF (wid ≠ 0) <|
 guardF (0 ≤ (0:Int) ∧ (0:Int) < (List.length a.1:Int)) <|
 bindF (f227 ([(rd (0:Int) a.1 (0:Int)),(i64.wrap (Int.tdiv (rd (0:Int) a.1 (1:Int)) wid))])) fun q7_11 =>
 bindF (loopF (fun go x=>f206_l6 a wid q7_11 go x.1 x.2.1 x.2.2) fuelN ((0:Int),[],q7_11.2.2)) fun z8 =>
 some ((0:Int),q7_11.2.1,z8.2,z8.1)) (fun z3b =>
 some (z3b,[],[],[]))
def C206 : Con where
 X := (LI×LI)×Int
 Y := Int×LI×LI×LI
 e := 0
 args x := [.dat T3 x.1,.dat T2 x.2]
 hin x := []
 F x := f206 x.1 x.2
 ret y := [.raw true [(.osl 0),(.osl 1)],O0 2,.dat T2 y.1]
 hout y := [(0,.arr 3 T2 y.2.1),(1,.arr 40 T2 y.2.2.1),(2,.arr 3 T2 y.2.2.2)]
 nout := 3
theorem C206_vc (a : LI×LI) (wid:Int) (y : Int×LI×LI×LI) (q : f206 a wid = some y) : VC Tryz.f206 C206 (a,wid) y := by
 unfold f206 at q
 refine OL ?_
 obtain ⟨z3,hz3,q⟩ := bE q
 refine OQ ⟨Sum.elim (fun z3a=>[(0,⟨[(1,.dat T2 wid),(2,P0 0 0),(4,P0 1 0)],[(0,.cells [(.d T1 a.1),(.d T1 a.2)]),(1,.cells [N0,N0])],2⟩)]) (fun z3b=>[(1,⟨[(4,P0 0 0),(5,.raw false [N0]),(6,.dat T2 z3b)],[(0,.cells [N0,N0])],1⟩)]) z3,?_,?_⟩
 ·have q := hz3
  clear hz3
  unfold f206_j2 at q
  refine OL ?_
  obtain ⟨r4,hr4,q⟩ := bE q
  refine OL (AI f59_in (cV (cQ C59 (a.1,a.2) r4 [] false C59_holds hr4 rfl rfl (R2 (K0 (cI q (fun q=>?_) (fun q=>?_)))))))
  ·refine OL (OL ?_)
   cases sE q
   refine E4 [(0,some 1)] (R2 (AI (R2 TV) (AI rfl TV)))
  refine OL (cI q (fun q=>?_) (fun q=>?_))
  ·refine OL (OL ?_)
   cases sE q
   refine E4 [(0,some 1)] (R2 (AI (R2 TV) (AI rfl TV)))
  obtain ⟨z5,hz5,q⟩ := bE q
  refine OQ ⟨[(0,⟨[(1,.dat T2 wid),(2,P0 0 0),(4,P0 1 0),(26,.dat .bool z5)],[(0,.cells [(.d T1 a.1),(.d T1 a.2)]),(1,.cells [N0,N0])],2⟩)],?_,?_⟩
  ·have q := hz5
   clear hz5
   unfold f206_j3 at q
   refine cN q (fun q=>?_) (fun q=>?_)
   ·refine gY (gY (gY (gI q (fun q=>?_))))
    refine gY (gY (cF ?_))
    cases sE q
    refine E4 I2 (R3 (AI (R2 TV) (R2 TV)))
   refine gN (gN (gN (gN (gN (cT ?_)))))
   cases sE q
   refine E4 I2 (R3 (AI (R2 TV) (R2 TV)))
  refine AI (cI q (fun q=>?_) (fun q=>?_)) TV
  ·refine OL (OL ?_)
   cases sE q
   refine E4 [(0,some 1)] (R2 (AI (R2 TV) (AI rfl TV)))
  cases sE q
  refine E4 I2 (R2 (AI (R2 TV) (R2 TV)))
 rcases z3 with z3a | z3b
 ·dsimp only [sumF] at q
  refine AI (OL (EI (.take 0 (.take 1 (.take 2 (.take 3 (.take 4 (.take 5 (.take 6 (.take 7 (.take 8 (.take 9 (.take 10 (.take 11 .done)))))))))))) (EI [] (EI [] (AI rfl (gI q (fun q=>?_))))))) TV
  refine gI q (fun q=>?_)
  refine gI q (fun q=>?_)
  refine OL (gI q (fun q=>?_))
  refine OL ?_
  obtain ⟨q7_11,hq7_11,q⟩ := bE q
  refine OL (AI f227_in (cV (cQ C227 [(rd (0:Int) a.1 (0:Int)),(i64.wrap (Int.tdiv (rd (0:Int) a.1 (1:Int)) wid))] q7_11 [] true C227_holds hq7_11 rfl rfl (AI rfl (AI (fun _=>rfl) (R2 (AI TV (AI TV (OL (OL (OL (OL ?_))))))))))))
  obtain ⟨z8,hz8,q⟩ := bE q
  refine lI (Int×LI×LI) (LI×LI) (fun x=>⟨[(1,.dat T2 wid),(2,P0 0 0),(4,P0 1 0),(7,.dat T2 (rd (0:Int) a.1 (1:Int))),(8,.dat T2 (i64.wrap (Int.tdiv (rd (0:Int) a.1 (1:Int)) wid))),(9,P0 2 0),(11,O0 3),(60,.dat T2 (List.length q7_11.2.2:Int)),(61,.dat T2 x.1)],[(0,.cells [(.d T1 a.1),(.d T1 a.2)]),(1,.cells [N0,N0]),(2,.cells [(.osl 4),(.osl 5)]),(3,.arr 3 T2 x.2.1),(4,.arr 3 T2 q7_11.2.1),(5,.arr 40 T2 x.2.2)],6⟩) (fun z=>[(3,⟨[(4,P0 0 0),(9,P0 1 0),(11,O0 2)],[(0,.cells [N0,N0]),(1,.cells [(.osl 3),(.osl 4)]),(2,.arr 3 T2 z.1),(3,.arr 3 T2 q7_11.2.1),(4,.arr 40 T2 z.2)],5⟩)]) (loopF (fun go x=>f206_l6 a wid q7_11 go x.1 x.2.1 x.2.2)) fuelN ((0:Int),[],q7_11.2.2) z8 (AI hz8 (AI (E4 [(0,some 0),(1,some 1),(2,some 5),(3,none),(4,some 3),(5,some 4)] (R6 (AI (R4 TV) (R6 TV)))) (AI (fun _ _ h=>lZ h) (AI (fun m=>curI (fun v61=>curI (fun l3=>fun l5 z q=>?_))) ?_))))
  ·have q : f206_l6 a wid q7_11 (loopF (fun go x=>f206_l6 a wid q7_11 go x.1 x.2.1 x.2.2) m) v61 l3 l5 = some z := q
   unfold f206_l6 at q
   refine OL (OL (cI q (fun q=>?_) (fun q=>?_)))
   ·refine OL (OL (OL (EI (.take 0 (.take 1 (.take 2 (.take 3 (.take 4 (.take 5 (.take 6 (.take 7 (.take 8 (.take 9 (.take 10 (.take 11 .done)))))))))))) (EI [] (EI [] (AI rfl (gI q (fun q=>?_))))))))
    refine gI q (fun q=>?_)
    refine OL (OL ?_)
    obtain ⟨z9,hz9,q⟩ := bE q
    refine lI (Int×Int) Int (fun x=>⟨[(1,.dat T2 wid),(2,P0 0 0),(4,P0 1 0),(7,.dat T2 (rd (0:Int) a.1 (1:Int))),(8,.dat T2 (i64.wrap (Int.tdiv (rd (0:Int) a.1 (1:Int)) wid))),(9,P0 2 0),(11,O0 3),(12,.dat T2 v61),(13,.dat T2 x.1),(14,.dat T2 x.2),(60,.dat T2 (List.length q7_11.2.2:Int)),(61,.dat T2 v61)],[(0,.cells [(.d T1 a.1),(.d T1 a.2)]),(1,.cells [N0,N0]),(2,.cells [(.osl 4),(.osl 5)]),(3,.arr 3 T2 l3),(4,.arr 3 T2 q7_11.2.1),(5,.arr 40 T2 l5)],6⟩) (fun z=>[(5,⟨[(1,.dat T2 wid),(2,P0 0 0),(4,P0 1 0),(7,.dat T2 (rd (0:Int) a.1 (1:Int))),(8,.dat T2 (i64.wrap (Int.tdiv (rd (0:Int) a.1 (1:Int)) wid))),(9,P0 2 0),(11,O0 3),(12,.dat T2 v61),(13,.dat T2 z),(60,.dat T2 (List.length q7_11.2.2:Int)),(61,.dat T2 v61)],[(0,.cells [(.d T1 a.1),(.d T1 a.2)]),(1,.cells [N0,N0]),(2,.cells [(.osl 4),(.osl 5)]),(3,.arr 3 T2 l3),(4,.arr 3 T2 q7_11.2.1),(5,.arr 40 T2 l5)],6⟩)]) (loopF (fun go x=>f206_l7 a wid v61 go x.1 x.2)) fuelN ((i64.wrap ((i64.wrap ((i64.wrap (Int.tdiv v61 (i64.wrap (Int.tdiv (rd (0:Int) a.1 (1:Int)) wid)))) * (rd (0:Int) a.1 (1:Int)))) + (i64.wrap ((Int.tmod v61 (i64.wrap (Int.tdiv (rd (0:Int) a.1 (1:Int)) wid))) * wid)))),(i64.wrap ((i64.wrap ((i64.wrap ((i64.wrap (Int.tdiv v61 (i64.wrap (Int.tdiv (rd (0:Int) a.1 (1:Int)) wid)))) * (rd (0:Int) a.1 (1:Int)))) + (i64.wrap ((Int.tmod v61 (i64.wrap (Int.tdiv (rd (0:Int) a.1 (1:Int)) wid))) * wid)))) + (1:Int)))) z9 (AI hz9 (AI (E4 I6 (R9 (AI (R4 TV) (R6 TV)))) (AI (fun _ _ h=>lZ h) (AI (fun m=>curI (fun best=>fun at_ z q=>?_)) ?_))))
    ·have q : f206_l7 a wid v61 (loopF (fun go x=>f206_l7 a wid v61 go x.1 x.2) m) best at_ = some z := q
     unfold f206_l7 at q
     refine OL (OL (EI (.take 0 (.take 1 (.take 2 (.take 3 (.take 4 (.take 5 (.take 6 (.take 7 (.take 8 (.take 9 (.take 10 (.take 11 (.take 12 (.take 13 (.take 14 .done))))))))))))))) (EI [] (EI [] (AI rfl (gI q (fun q=>?_)))))))
     refine gI q (fun q=>?_)
     refine cI q (fun q=>?_) (fun q=>?_)
     ·refine OL (OL (EI (.take 0 (.take 1 (.take 2 (.take 3 (.take 4 (.take 5 (.take 6 (.take 7 (.take 8 (.take 9 (.take 10 .done))))))))))) (EI [] (EI [] (AI rfl (gI q (fun q=>?_)))))))
      refine gI q (fun q=>?_)
      refine cI q (fun q=>?_) (fun q=>?_)
      ·refine EI (at_,(i64.wrap (at_ + (1:Int)))) (AI q (E4 I6 (R9 (AI (R4 TV) (R6 TV)))))
      refine EI (best,(i64.wrap (at_ + (1:Int)))) (AI q (E4 I6 (R9 (AI (R4 TV) (R6 TV)))))
     cases sE q
     refine E4 I6 (R8 (AI (R4 TV) (R6 TV)))
    refine AI (OL (EI (.take 0 (.take 1 (.take 2 (.take 3 (.take 4 (.take 5 (.take 6 (.take 7 (.take 8 (.alt 9 .done .done)))))))))) (EI [] (EI [] (AI rfl (gI q (fun q=>?_))))))) TV
    refine gI q (fun q=>?_)
    refine AI TV (OL (OL (OL (gI q (fun q=>?_)))))
    refine EI ((i64.wrap (v61 + (1:Int))),(l3 ++ ([z9])),(List.set l5 (Int.toNat v61) (rd (0:Int) a.2 z9))) (AI q (E4 [(0,some 0),(1,some 1),(2,some 2),(3,some 7),(4,some 4),(5,some 5)] (R6 (AI (R4 TV) (R6 TV)))))
   cases sE q
   refine E4 [(0,some 1),(1,some 2),(2,some 3),(3,some 4),(4,some 5)] (AI rfl (AI (R3 TV) (R5 TV)))
  refine AI (OL (OL ?_)) TV
  cases sE q
  refine AI rfl (E4 [(0,some 3),(1,some 4),(2,some 2)] (R2 (AI (R2 TV) (R3 TV))))
 dsimp only [sumF] at q
 refine AI ?_ TV
 cases sE q
 refine AI rfl (E4 [(0,none),(1,none),(2,none)] (R2 (AI (R2 TV) (R3 TV))))
theorem C206_holds : HP C206 206 := hH Tryz.f206 (by kernel_rfl) rfl (fun x y q=>C206_vc x.1 x.2 y q)
theorem f206_in : InP 206 := inP (by kernel_rfl)
def f174_j3 (a : LI×LI) (d : LI) : Option Bool :=
 bindF (f59 (a.1,a.2)) fun r8 =>
 bif (!r8) then
 some true
 else
 bindF (f99 d) fun r9 =>
 some (!r9)
def f174_j2 (a : LI×LI) (d : LI) : Option (Sum Unit Int) :=
 bindF (f174_j3 a d) fun z7 =>
 bif z7 then
 some (Sum.inr (1:Int))
 else
 bindF (f100 d) fun q3_1 =>
 bif (q3_1 != (List.length a.2:Int)) then
 some (Sum.inr (4:Int))
 else
 some (Sum.inl ())
def f174 (a : LI×LI) (d : LI) : Option (Int×LI×LI) :=
 bindF (f174_j2 a d) fun z5 =>
 sumF z5 (fun z5a =>
 bindF (f101 d) fun q5_1 =>
 bindF (f96 a.2) fun q5_4 =>
 some ((0:Int),q5_1,q5_4)) (fun z5b =>
 some (z5b,[],[]))
def C174 : Con where
 X := (LI×LI)×LI
 Y := Int×LI×LI
 e := 0
 args x := [.dat T3 x.1,.dat T1 x.2]
 hin x := []
 F x := f174 x.1 x.2
 ret y := [.raw true [(.osl 0),(.osl 1)],.dat T2 y.1]
 hout y := [(0,.arr 3 T2 y.2.1),(1,.arr 40 T2 y.2.2)]
 nout := 2
theorem C174_vc (a : LI×LI) (d : LI) (y : Int×LI×LI) (q : f174 a d = some y) : VC Tryz.f174 C174 (a,d) y := by
 unfold f174 at q
 refine OL ?_
 obtain ⟨z5,hz5,q⟩ := bE q
 refine OQ ⟨Sum.elim (fun z5a=>[(0,⟨[(1,.dat T1 d),(2,P0 0 0),(4,P0 1 0)],[(0,.cells [(.d T1 a.1),(.d T1 a.2)]),(1,.cells [N0,N0])],2⟩)]) (fun z5b=>[(1,⟨[(4,P0 0 0),(5,.dat T2 z5b)],[(0,.cells [N0,N0])],1⟩)]) z5,?_,?_⟩
 ·have q := hz5
  clear hz5
  unfold f174_j2 at q
  obtain ⟨z7,hz7,q⟩ := bE q
  refine OQ ⟨[(0,⟨[(1,.dat T1 d),(2,P0 0 0),(4,P0 1 0),(6,.dat .bool z7)],[(0,.cells [(.d T1 a.1),(.d T1 a.2)]),(1,.cells [N0,N0])],2⟩)],?_,?_⟩
  ·have q := hz7
   clear hz7
   unfold f174_j3 at q
   obtain ⟨r8,hr8,q⟩ := bE q
   refine OL (AI f59_in (cV (cQ C59 (a.1,a.2) r8 [] false C59_holds hr8 rfl rfl (R2 (K0 (cN q (fun q=>?_) (fun q=>?_)))))))
   ·refine gY ?_
    obtain ⟨r9,hr9,q⟩ := bE q
    refine OL (AI f99_in (cV (cQ C99 d r9 [] false C99_holds hr9 rfl rfl (AI rfl (K0 (gY (cF ?_)))))))
    cases sE q
    refine E4 I2 (R3 (AI (R2 TV) (R2 TV)))
   refine gN (gN (cT ?_))
   cases sE q
   refine E4 I2 (R3 (AI (R2 TV) (R2 TV)))
  refine AI (cI q (fun q=>?_) (fun q=>?_)) TV
  ·refine OL (OL ?_)
   cases sE q
   refine E4 [(0,some 1)] (R2 (AJ (AI rfl TV)))
  refine OL (EI (.take 0 (.take 2 (.take 3 (.take 4 (.alt 1 (.take 5 (.take 6 .done)) .done))))) (EI [] (EI [] (AI rfl (AI TV ?_)))))
  obtain ⟨q3_1,hq3_1,q⟩ := bE q
  refine OL (AI f100_in (cV (cQ C100 d q3_1 [] false C100_holds hq3_1 rfl rfl (AI rfl (K0 (cI q (fun q=>?_) (fun q=>?_)))))))
  ·refine OL (OL ?_)
   cases sE q
   refine E4 [(0,some 1)] (R2 (AJ (AI rfl TV)))
  cases sE q
  refine E4 I2 (R2 (AI (R2 TV) (R2 TV)))
 rcases z5 with z5a | z5b
 ·dsimp only [sumF] at q
  refine AI (OL (EI (.take 0 (.take 2 (.take 3 (.alt 1 (.alt 4 (.take 5 (.alt 6 (.take 7 .done) .done)) .done) .done)))) (EI [] (EI [] (AI rfl (AI TV ?_)))))) TV
  obtain ⟨q5_1,hq5_1,q⟩ := bE q
  refine OL (AI f101_in (cV (cQ C101 d q5_1 [] false C101_holds hq5_1 rfl rfl (AI rfl (K0 (AI TV ?_))))))
  obtain ⟨q5_4,hq5_4,q⟩ := bE q
  refine OL (AI f96_in (cV (cQ C96 a.2 q5_4 [] false C96_holds hq5_4 rfl rfl (AI rfl (K0 (AI TV (OL ?_)))))))
  cases sE q
  refine AI rfl (E4 [(0,some 2),(1,some 3)] (R2 (AJ (R2 TV))))
 dsimp only [sumF] at q
 refine AI ?_ TV
 cases sE q
 refine AI rfl (E4 [(0,none),(1,none)] (R2 (AJ (R2 TV))))
theorem C174_holds : HP C174 174 := hH Tryz.f174 (by kernel_rfl) rfl (fun x y q=>C174_vc x.1 x.2 y q)
theorem f174_in : InP 174 := inP (by kernel_rfl)
def f152 (op:Int) (a : LI×LI) (k:Int) : Option (Int×LI×LI) :=
 bif (op == (5:Int)) then
 bindF (f166 (a.1,a.2) k) fun r1 =>
 some (r1.1,r1.2.1,r1.2.2)
 else
 bif (op == (7:Int)) then
 bindF (f168 (a.1,a.2)) fun r2 =>
 some (r2.1,r2.2.1,r2.2.2)
 else
 bif (op == (8:Int)) then
 bindF (f201 (a.1,a.2) k) fun r3 =>
 some (r3.1,r3.2.1,r3.2.2)
 else
 bif (op == (9:Int)) then
 bindF (f203 (a.1,a.2)) fun r4 =>
 bindF (f202 r4.1 r4.2) fun r5 =>
 some (r5.1,r5.2.1,r5.2.2)
 else
 bif (op == (10:Int)) then
 bindF (f204 (a.1,a.2)) fun r6 =>
 bindF (f202 r6.1 r6.2) fun r7 =>
 some (r7.1,r7.2.1,r7.2.2)
 else
 bif (op == (11:Int)) then
 bindF (f205 k (a.1,a.2)) fun r8 =>
 some (r8.1,r8.2.1,r8.2.2)
 else
 bif (op == (13:Int)) then
 bindF (f206 (a.1,a.2) k) fun r9 =>
 some (r9.1,r9.2.1,r9.2.2.1)
 else
 bindF (f174 (a.1,a.2) ([(List.length a.2:Int)])) fun r10 =>
 some (r10.1,r10.2.1,r10.2.2)
def C152 : Con where
 X := Int×(LI×LI)×Int
 Y := Int×LI×LI
 e := 0
 args x := [.dat T2 x.1,.dat T3 x.2.1,.dat T2 x.2.2]
 hin x := []
 F x := f152 x.1 x.2.1 x.2.2
 ret y := [.raw true [(.osl 0),(.osl 1)],.dat T2 y.1]
 hout y := [(0,.arr 3 T2 y.2.1),(1,.arr 40 T2 y.2.2)]
 nout := 2
theorem C152_vc (op:Int) (a : LI×LI) (k:Int) (y : Int×LI×LI) (q : f152 op a k = some y) : VC Tryz.f152 C152 (op,a,k) y := by
 unfold f152 at q
 refine OL (OL (OL (OL (cI q (fun q=>?_) (fun q=>?_)))))
 ·refine OL ?_
  obtain ⟨r1,hr1,q⟩ := bE q
  refine OL (AI f166_in (cV (cQ C166 ((a.1,a.2),k) r1 [] false C166_holds hr1 rfl rfl (R3 (K0 (OL ?_))))))
  cases sE q
  refine AI rfl (E4 [(0,some 2),(1,some 3)] (R2 (AJ (R2 TV))))
 refine OL (cI q (fun q=>?_) (fun q=>?_))
 ·refine OL ?_
  obtain ⟨r2,hr2,q⟩ := bE q
  refine OL (AI f168_in (cV (cQ C168 (a.1,a.2) r2 [] false C168_holds hr2 rfl rfl (R2 (K0 (OL ?_))))))
  cases sE q
  refine AI rfl (E4 [(0,some 2),(1,some 3)] (R2 (AJ (R2 TV))))
 refine OL (cI q (fun q=>?_) (fun q=>?_))
 ·refine OL ?_
  obtain ⟨r3,hr3,q⟩ := bE q
  refine OL (AI f201_in (cV (cQ C201 ((a.1,a.2),k) r3 [] false C201_holds hr3 rfl rfl (R3 (K0 (OL ?_))))))
  cases sE q
  refine AI rfl (E4 [(0,some 2),(1,some 3)] (R2 (AJ (R2 TV))))
 refine OL (cI q (fun q=>?_) (fun q=>?_))
 ·refine OL ?_
  obtain ⟨r4,hr4,q⟩ := bE q
  refine OL (AI f203_in (cV (cQ C203 (a.1,a.2) r4 [] false C203_holds hr4 rfl rfl (R2 (K0 ?_)))))
  obtain ⟨r5,hr5,q⟩ := bE q
  refine OL (AI f202_in (cV (cQ C202 (r4.1,r4.2) r5 [] false C202_holds hr5 rfl rfl (R2 (K0 (OL ?_))))))
  cases sE q
  refine AI rfl (E4 [(0,some 2),(1,some 3)] (R2 (AJ (R2 TV))))
 refine OL (cI q (fun q=>?_) (fun q=>?_))
 ·refine OL ?_
  obtain ⟨r6,hr6,q⟩ := bE q
  refine OL (AI f204_in (cV (cQ C204 (a.1,a.2) r6 [] false C204_holds hr6 rfl rfl (R2 (K0 ?_)))))
  obtain ⟨r7,hr7,q⟩ := bE q
  refine OL (AI f202_in (cV (cQ C202 (r6.1,r6.2) r7 [] false C202_holds hr7 rfl rfl (R2 (K0 (OL ?_))))))
  cases sE q
  refine AI rfl (E4 [(0,some 2),(1,some 3)] (R2 (AJ (R2 TV))))
 refine OL (cI q (fun q=>?_) (fun q=>?_))
 ·refine OL ?_
  obtain ⟨r8,hr8,q⟩ := bE q
  refine OL (AI f205_in (cV (cQ C205 (k,(a.1,a.2)) r8 [] false C205_holds hr8 rfl rfl (R3 (K0 (OL ?_))))))
  cases sE q
  refine AI rfl (E4 [(0,some 2),(1,some 3)] (R2 (AJ (R2 TV))))
 refine OL (cI q (fun q=>?_) (fun q=>?_))
 ·refine OL ?_
  obtain ⟨r9,hr9,q⟩ := bE q
  refine OL (AI f206_in (cV (cQ C206 ((a.1,a.2),k) r9 [] false C206_holds hr9 rfl rfl (R3 (K0 (OL (OL (OL ?_))))))))
  cases sE q
  refine AI rfl (E4 [(0,some 2),(1,some 3)] (R2 (AJ (R2 TV))))
 refine OL (OL ?_)
 obtain ⟨r10,hr10,q⟩ := bE q
 refine OL (AI f174_in (cV (cQ C174 ((a.1,a.2),[(List.length a.2:Int)]) r10 [] true C174_holds hr10 rfl rfl (R3 (AI (fun _=>rfl) (R2 (AI TV (AI TV (OL ?_)))))))))
 cases sE q
 refine AI rfl (E4 [(0,some 3),(1,some 4)] (R2 (AJ (R2 TV))))
theorem C152_holds : HP C152 152 := hH Tryz.f152 (by kernel_rfl) rfl (fun x y q=>C152_vc x.1 x.2.1 x.2.2 y q)
theorem f152_in : InP 152 := inP (by kernel_rfl)
def f104_j1 (t_l : NL) (op:Int) (a:Int) (b:Int) : Option (Sum NL (Int×NL)) :=
 bif (decide ((List.length t_l:Int) ≥ (512:Int))) then
 some (Sum.inr ((2:Int),t_l))
 else
 bif (decide (op < (2:Int))) then
 some (Sum.inr ((1:Int),t_l))
 else
 bif (decide (op > (14:Int))) then
 some (Sum.inr ((1:Int),t_l))
 else
 bindF (f72 t_l a) fun r5 =>
 bif (!r5.1) then
 some (Sum.inr ((1:Int),r5.2))
 else
 bindF (f149 op) fun r6 =>
 bif r6 then
 bindF (f72 r5.2 b) fun r7 =>
 bif (!r7.1) then
 some (Sum.inr ((1:Int),r7.2))
 else
 some (Sum.inl r7.2)
 else
 some (Sum.inl r5.2)
def f104_j2 (op:Int) (k:Int) : Option Int :=
 bindF (f150 op) fun r10 =>
 bif r10 then
 some k
 else
 some (0:Int)
def f104_j3 (op:Int) (a:Int) (b:Int) (k:Int) (z4a : NL) : Option (Int×Int×LI×LI) :=
 bindF (f149 op) fun r13 =>
 bif r13 then
 guardF (0 ≤ a ∧ a < (List.length z4a:Int)) <|
 guardF (0 ≤ b ∧ b < (List.length z4a:Int)) <|
 bindF (f151 op ((((((rd (Ty.z T0) z4a a).2).2).2).2).1,(((((rd (Ty.z T0) z4a a).2).2).2).2).2) ((((((rd (Ty.z T0) z4a b).2).2).2).2).1,(((((rd (Ty.z T0) z4a b).2).2).2).2).2) k) fun q11_18 =>
 some (q11_18.1,b,q11_18.2.1,q11_18.2.2)
 else
 guardF (0 ≤ a ∧ a < (List.length z4a:Int)) <|
 bindF (f152 op ((((((rd (Ty.z T0) z4a a).2).2).2).2).1,(((((rd (Ty.z T0) z4a a).2).2).2).2).2) k) fun q11_24 =>
 some (q11_24.1,(-1:Int),q11_24.2.1,q11_24.2.2)
def f104 (t_l : NL) (op:Int) (a:Int) (b:Int) (k:Int) : Option (Int×Int×NL) :=
 bindF (f104_j1 t_l op a b) fun z4 =>
 sumF z4 (fun z4a =>
 bindF (f104_j2 op k) fun z9 =>
 bindF (f104_j3 op a b k z4a) fun z12 =>
 bif (z12.1 != (0:Int)) then
 some ((0:Int),z12.1,z4a)
 else
 bindF (f60 z4a (op,a,z12.2.1,z9,z12.2.2.1,z12.2.2.2)) fun r14 =>
 some (r14.1,(0:Int),r14.2)) (fun z4b =>
 some ((0:Int),z4b.1,z4b.2))
def C104 : Con where
 X := NL×Int×Int×Int×Int
 Y := Int×Int×NL
 e := 2
 args x := [P0 0 0,.dat T2 x.2.1,.dat T2 x.2.2.1,.dat T2 x.2.2.2.1,.dat T2 x.2.2.2.2]
 hin x := [(0,.cells [(.osl 1)]),(1,.arr 42 T0 x.1)]
 F x := f104 x.1 x.2.1 x.2.2.1 x.2.2.2.1 x.2.2.2.2
 ret y := [.dat T2 y.1,.dat T2 y.2.1]
 hout y := [(0,.cells [(.osl 2)]),(2,.arr 42 T0 y.2.2)]
 nout := 3
theorem C104_vc (t_l : NL) (op:Int) (a:Int) (b:Int) (k:Int) (y : Int×Int×NL) (q : f104 t_l op a b k = some y) : VE Tryz.f104 2 C104 (t_l,op,a,b,k) y := by
 unfold f104 at q
 refine OL ?_
 obtain ⟨z4,hz4,q⟩ := bE q
 refine OQ ⟨Sum.elim (fun z4a=>[(0,⟨[(0,P0 0 0),(1,.dat T2 op),(2,.dat T2 a),(3,.dat T2 b),(4,.dat T2 k)],[(0,.cells [(.osl 1)]),(1,.arr 42 T0 z4a)],2⟩)]) (fun z4b=>[(1,⟨[(10,D0 0),(11,.dat T2 z4b.1)],[(0,.cells [(.osl 1)]),(1,.arr 42 T0 z4b.2)],2⟩)]) z4,?_,?_⟩
 ·have q := hz4
  clear hz4
  unfold f104_j1 at q
  refine OL (cI q (fun q=>?_) (fun q=>?_))
  ·cases sE q
   refine OL (E4 I2 (R3 (AI TV (R2 TV))))
  refine OL (cN q (fun q=>?_) (fun q=>?_))
  ·refine gY (cF (cN q (fun q=>?_) (fun q=>?_)))
   ·refine gY (gY ?_)
    obtain ⟨r5,hr5,q⟩ := bE q
    refine OL (AI f72_in (cV (cQ C72 (t_l,a) r5 I2 false C72_holds hr5 rfl rfl (AI rfl (AI NH (R2 (AJ (AI (R2 TV) (gY (cF (cN q (fun q=>?_) (fun q=>?_))))))))))))
    ·refine gY ?_
     obtain ⟨r6,hr6,q⟩ := bE q
     refine OL (AI f149_in (cV (cQ C149 op r6 [] false C149_holds hr6 rfl rfl (AI rfl (K0 (gY (cI q (fun q=>?_) (fun q=>?_))))))))
     ·refine gX (gX ?_)
      obtain ⟨r7,hr7,q⟩ := bE q
      refine OL (AI f72_in (cV (cQ C72 (r5.2,b) r7 I2 false C72_holds hr7 rfl rfl (AI rfl (AI NH (R2 (AJ (AI (R2 TV) (gX (gY (cT (cF (cI q (fun q=>?_) (fun q=>?_))))))))))))))
      ·cases sE q
       refine OL (E4 I2 (R3 (AI TV (R2 TV))))
      cases sE q
      refine E4 I2 (R5 (AJ (R2 TV)))
     refine gM (gM (gM (gY (cF (cF (cF ?_))))))
     cases sE q
     refine E4 I2 (R5 (AJ (R2 TV)))
    refine gN (gN (gN (cT (cT (OL ?_)))))
    cases sE q
    refine E4 I2 (R3 (AI TV (R2 TV)))
   refine gN (gN (gN (cT (gN (gN (gN (gN (cT (cT (OL ?_))))))))))
   cases sE q
   refine E4 I2 (R3 (AI TV (R2 TV)))
  refine gN (cT (gN (gN (gN (gN (cT (gN (gN (gN (gN (cT (cT (OL ?_)))))))))))))
  cases sE q
  refine E4 I2 (R3 (AI TV (R2 TV)))
 rcases z4 with z4a | z4b
 ·dsimp only [sumF] at q
  refine AI (OL (OL ?_)) TV
  obtain ⟨z9,hz9,q⟩ := bE q
  refine OQ ⟨[(0,⟨[(0,P0 0 0),(1,.dat T2 op),(2,.dat T2 a),(3,.dat T2 b),(4,.dat T2 k),(12,P0 2 0)],[(0,.cells [(.osl 1)]),(1,.arr 42 T0 z4a),(2,.cells [(.d T2 op),(.d T2 a),(.d T2 (-1:Int)),(.d T2 z9),N0,N0])],3⟩)],?_,?_⟩
  ·have q := hz9
   clear hz9
   unfold f104_j2 at q
   refine OL ?_
   obtain ⟨r10,hr10,q⟩ := bE q
   refine OL (AI f150_in (cV (cQ C150 op r10 [] false C150_holds hr10 rfl rfl (AI rfl (K0 (cI q (fun q=>?_) (fun q=>?_)))))))
   ·cases sE q
    refine OL (E4 I3 (R5 (AI (R2 TV) (R3 TV))))
   cases sE q
   refine E4 I3 (R5 (AI (R2 TV) (R3 TV)))
  refine AI (OL ?_) TV
  obtain ⟨z12,hz12,q⟩ := bE q
  refine OQ ⟨[(0,⟨[(0,P0 0 0),(12,P0 2 0),(13,.dat T2 z12.1)],[(0,.cells [(.osl 1)]),(1,.arr 42 T0 z4a),(2,.cells [(.d T2 op),(.d T2 a),(.d T2 z12.2.1),(.d T2 z9),(.osl 3),(.osl 4)]),(3,.arr 3 T2 z12.2.2.1),(4,.arr 40 T2 z12.2.2.2)],5⟩)],?_,?_⟩
  ·have q := hz12
   clear hz12
   unfold f104_j3 at q
   refine OL ?_
   obtain ⟨r13,hr13,q⟩ := bE q
   refine OL (AI f149_in (cV (cQ C149 op r13 [] false C149_holds hr13 rfl rfl (AI rfl (K0 (cI q (fun q=>?_) (fun q=>?_)))))))
   ·refine OL (OL (EI (.take 0 (.take 1 (.take 2 (.take 3 (.take 4 (.take 5 (.take 6 (.take 7 (.take 8 (.take 9 (.take 10 (.take 11 (.take 12 (.take 13 (.take 14 (.take 15 (.take 16 (.take 17 (.alt 18 (.take 19 (.take 20 (.take 21 (.take 22 (.alt 23 (.take 24 .done) .done))))) .done))))))))))))))))))) (EI [] (EI [] (AI rfl (gI q (fun q=>?_)))))))
    refine gI q (fun q=>?_)
    refine AI TV ?_
    obtain ⟨q11_18,hq11_18,q⟩ := bE q
    refine OL (AI f151_in (cV (cQ C151 (op,((((((rd (Ty.z T0) z4a a).2).2).2).2).1,(((((rd (Ty.z T0) z4a a).2).2).2).2).2),((((((rd (Ty.z T0) z4a b).2).2).2).2).1,(((((rd (Ty.z T0) z4a b).2).2).2).2).2),k) q11_18 [] false C151_holds hq11_18 rfl rfl (R6 (K0 (AI TV (OL ?_)))))))
    cases sE q
    refine E4 I5 (R2 (AI (R2 TV) (R5 TV)))
   refine gI q (fun q=>?_)
   obtain ⟨q11_24,hq11_24,q⟩ := bE q
   refine OL (AI f152_in (cV (cQ C152 (op,((((((rd (Ty.z T0) z4a a).2).2).2).2).1,(((((rd (Ty.z T0) z4a a).2).2).2).2).2),k) q11_24 [] false C152_holds hq11_24 rfl rfl (R4 (K0 (OL ?_))))))
   cases sE q
   refine E4 I5 (R2 (AI (R2 TV) (R5 TV)))
  refine AI (OL (OL (cI q (fun q=>?_) (fun q=>?_)))) TV
  ·cases sE q
   refine OL (AI rfl (E4 [(0,some 0),(2,some 1)] (R3 (AI TV (R2 TV)))))
  refine OL ?_
  obtain ⟨r14,hr14,q⟩ := bE q
  refine OL (AI f60_in (cV (cQ C60 (z4a,(op,a,z12.2.1,z9,z12.2.2.1,z12.2.2.2)) r14 I2 false C60_holds hr14 rfl rfl (R2 (AI NH (R2 (AJ (AI (R2 TV) ?_))))))))
  cases sE q
  refine AI rfl (E4 [(0,some 0),(2,some 7)] (R3 (AI TV (R2 TV))))
 dsimp only [sumF] at q
 refine AI ?_ TV
 cases sE q
 refine AI rfl (E4 [(0,some 0),(2,some 1)] (R3 (AI TV (R2 TV))))
theorem C104_holds : HP C104 104 := hH Tryz.f104 (by kernel_rfl) rfl (fun x y q=>C104_vc x.1 x.2.1 x.2.2.1 x.2.2.2.1 x.2.2.2.2 y q)
theorem f104_in : InP 104 := inP (by kernel_rfl)
def f65 (s_t_l : NL) (s_was:Int) (s_e:Int) (op:Int) (a:Int) (b:Int) (k:Int) : Option (Int×Int×Int×NL) :=
 bif (s_e != (0:Int)) then
 some ((0:Int),s_was,s_e,s_t_l)
 else
 bindF (f104 s_t_l op a b k) fun r1 =>
 some (r1.1,s_was,r1.2.1,r1.2.2)
def C65 : Con where
 X := NL×Int×Int×Int×Int×Int×Int
 Y := Int×Int×Int×NL
 e := 3
 args x := [P0 0 0,.dat T2 x.2.2.2.1,.dat T2 x.2.2.2.2.1,.dat T2 x.2.2.2.2.2.1,.dat T2 x.2.2.2.2.2.2]
 hin x := [(0,.cells [(.ptr 1 0),(.d T2 x.2.1),(.d T2 x.2.2.1)]),(1,.cells [(.osl 2)]),(2,.arr 42 T0 x.1)]
 F x := f65 x.1 x.2.1 x.2.2.1 x.2.2.2.1 x.2.2.2.2.1 x.2.2.2.2.2.1 x.2.2.2.2.2.2
 ret y := [.dat T2 y.1]
 hout y := [(0,.cells [(.ptr 1 0),(.d T2 y.2.1),(.d T2 y.2.2.1)]),(1,.cells [(.osl 3)]),(3,.arr 42 T0 y.2.2.2)]
 nout := 4
theorem C65_vc (s_t_l : NL) (s_was:Int) (s_e:Int) (op:Int) (a:Int) (b:Int) (k:Int) (y : Int×Int×Int×NL) (q : f65 s_t_l s_was s_e op a b k = some y) : VE Tryz.f65 3 C65 (s_t_l,s_was,s_e,op,a,b,k) y := by
 unfold f65 at q
 refine OL (OL (OL (cI q (fun q=>?_) (fun q=>?_))))
 ·cases sE q
  refine OL (AI rfl (E4 [(0,some 0),(1,some 1),(3,some 2)] (R2 (AI TV (R3 TV)))))
 refine OL ?_
 obtain ⟨r1,hr1,q⟩ := bE q
 refine OL (AI f104_in (cV (cQ C104 (s_t_l,op,a,b,k) r1 [(0,some 1),(1,some 2)] false C104_holds hr1 rfl rfl (R4 (AI NH (R2 (AJ (AI (R2 TV) (OL (OL (OL ?_)))))))))))
 cases sE q
 refine AI rfl (E4 [(0,some 0),(1,some 1),(3,some 5)] (R2 (AI TV (R3 TV))))
theorem C65_holds : HP C65 65 := hH Tryz.f65 (by kernel_rfl) rfl (fun x y q=>C65_vc x.1 x.2.1 x.2.2.1 x.2.2.2.1 x.2.2.2.2.1 x.2.2.2.2.2.1 x.2.2.2.2.2.2 y q)
theorem f65_in : InP 65 := inP (by kernel_rfl)
def f105 (t_l : NL) (n:Int) : Option NL :=
 guardF (0 ≤ (if (List.length t_l:Int) < (if (0:Int) > n then (0:Int) else n) then (List.length t_l:Int) else (if (0:Int) > n then (0:Int) else n)) ∧ (if (List.length t_l:Int) < (if (0:Int) > n then (0:Int) else n) then (List.length t_l:Int) else (if (0:Int) > n then (0:Int) else n)) ≤ (List.length t_l:Int)) <|
 some (List.take (Int.toNat (if (List.length t_l:Int) < (if (0:Int) > n then (0:Int) else n) then (List.length t_l:Int) else (if (0:Int) > n then (0:Int) else n))) t_l)
def C105 : Con where
 X := NL×Int
 Y := NL
 e := 2
 args x := [P0 0 0,.dat T2 x.2]
 hin x := [(0,.cells [(.osl 1)]),(1,.arr 42 T0 x.1)]
 F x := f105 x.1 x.2
 ret y := []
 hout y := [(0,.cells [(.osl 2)]),(2,.arr 42 T0 y)]
 nout := 3
theorem C105_vc (t_l : NL) (n:Int) (y : NL) (q : f105 t_l n = some y) : VE Tryz.f105 2 C105 (t_l,n) y := by
 unfold f105 at q
 refine EI (.take 0 (.take 1 (.take 2 (.take 3 (.take 4 (.take 5 (.take 6 (.take 7 (.take 8 (.take 9 (.take 10 (.take 11 (.take 12 (.alt 13 (.take 14 (.take 15 (.alt 16 .done .done))) .done)))))))))))))) (EI [(16,[0])] (EI [] (AI rfl (AI TV (OQ (OQ (gI q (fun q=>?_))))))))
 refine AI TV (OL ?_)
 cases sE q
 refine AI rfl (E4 [(0,some 0),(2,some 2)] (AI rfl (AI TV (R2 TV))))
theorem C105_holds : HP C105 105 := hH Tryz.f105 (by kernel_rfl) rfl (fun x y q=>C105_vc x.1 x.2 y q)
theorem f105_in : InP 105 := inP (by kernel_rfl)
def f67 (s_t_l : NL) (s_was:Int) (s_e:Int) (n:Int) : Option (Int×Int×Int×Int×NL) :=
 bif (s_e != (0:Int)) then
 bindF (f105 s_t_l s_was) fun q2_8 =>
 some ((0:Int),s_e,s_was,s_e,q2_8)
 else
 some (n,(0:Int),s_was,s_e,s_t_l)
def C67 : Con where
 X := NL×Int×Int×Int
 Y := Int×Int×Int×Int×NL
 e := 3
 args x := [P0 0 0,.dat T2 x.2.2.2]
 hin x := [(0,.cells [(.ptr 1 0),(.d T2 x.2.1),(.d T2 x.2.2.1)]),(1,.cells [(.osl 2)]),(2,.arr 42 T0 x.1)]
 F x := f67 x.1 x.2.1 x.2.2.1 x.2.2.2
 ret y := [.dat T2 y.1,.dat T2 y.2.1]
 hout y := [(0,.cells [(.ptr 1 0),(.d T2 y.2.2.1),(.d T2 y.2.2.2.1)]),(1,.cells [(.osl 3)]),(3,.arr 42 T0 y.2.2.2.2)]
 nout := 4
theorem C67_vc (s_t_l : NL) (s_was:Int) (s_e:Int) (n:Int) (y : Int×Int×Int×Int×NL) (q : f67 s_t_l s_was s_e n = some y) : VE Tryz.f67 3 C67 (s_t_l,s_was,s_e,n) y := by
 unfold f67 at q
 refine OL (OL (OL (cI q (fun q=>?_) (fun q=>?_))))
 ·refine OL (EI (.take 0 (.take 1 (.take 2 (.take 3 (.take 4 (.take 5 (.take 6 (.take 7 (.alt 8 .done .done))))))))) (EI [] (EI [] (AI rfl (AI TV ?_)))))
  obtain ⟨q2_8,hq2_8,q⟩ := bE q
  refine OL (AI f105_in (cV (cQ C105 (s_t_l,s_was) q2_8 [(0,some 1),(1,some 2)] false C105_holds hq2_8 rfl rfl (AI rfl (AI NH (R2 (AJ (AI (R2 TV) (OL (EI (.take 0 (.take 1 (.take 2 (.take 3 (.take 4 (.take 5 .done)))))) (EI [] (EI [] (AI rfl ?_)))))))))))))
  cases sE q
  refine AI rfl (E4 [(0,some 0),(1,some 1),(3,some 5)] (R3 (AI TV (R3 TV))))
 cases sE q
 refine OL (AI rfl (E4 [(0,some 0),(1,some 1),(3,some 2)] (R3 (AI TV (R3 TV)))))
theorem C67_holds : HP C67 67 := hH Tryz.f67 (by kernel_rfl) rfl (fun x y q=>C67_vc x.1 x.2.1 x.2.2.1 x.2.2.2 y q)
theorem f67_in : InP 67 := inP (by kernel_rfl)
def f20 (t_l : NL) (out:Int) (want : LI) : Option (Int×Int×NL) :=
 bindF (f63 t_l out want) fun r1 =>
 bif (r1.1 != (0:Int)) then
 some ((0:Int),r1.1,r1.2)
 else
 bindF (f64 r1.2) fun r2 =>
 bindF (f66 r2.2 r2.1 (0:Int) want) fun r3 =>
 bindF (f65 r3.2.2.2 r3.2.1 r3.2.2.1 (3:Int) out r3.1 (0:Int)) fun r4 =>
 bindF (f65 r4.2.2.2 r4.2.1 r4.2.2.1 (4:Int) r4.1 r4.1 (0:Int)) fun r5 =>
 bindF (f65 r5.2.2.2 r5.2.1 r5.2.2.1 (10:Int) r5.1 (0:Int) (0:Int)) fun r6 =>
 bindF (f67 r6.2.2.2 r6.2.1 r6.2.2.1 r6.1) fun r7 =>
 some (r7.1,r7.2.1,r7.2.2.2.2)
def C20 : Con where
 X := NL×Int×LI
 Y := Int×Int×NL
 e := 2
 args x := [P0 0 0,.dat T2 x.2.1,.dat T1 x.2.2]
 hin x := [(0,.cells [(.osl 1)]),(1,.arr 42 T0 x.1)]
 F x := f20 x.1 x.2.1 x.2.2
 ret y := [.dat T2 y.1,.dat T2 y.2.1]
 hout y := [(0,.cells [(.osl 2)]),(2,.arr 42 T0 y.2.2)]
 nout := 3
theorem C20_vc (t_l : NL) (out:Int) (want : LI) (y : Int×Int×NL) (q : f20 t_l out want = some y) : VE Tryz.f20 2 C20 (t_l,out,want) y := by
 unfold f20 at q
 refine OL (OL (OL ?_))
 obtain ⟨r1,hr1,q⟩ := bE q
 refine OL (AI f63_in (cV (cQ C63 (t_l,out,want) r1 I2 false C63_holds hr1 rfl rfl (R2 (AI NH (R2 (AJ (AI (R2 TV) (OL (cI q (fun q=>?_) (fun q=>?_)))))))))))
 ·cases sE q
  refine OL (AI rfl (E4 [(0,some 0),(2,some 1)] (R3 (AI TV (R2 TV)))))
 refine OL ?_
 obtain ⟨r2,hr2,q⟩ := bE q
 refine OL (AI f64_in (cV (cQ C64 r1.2 r2 I2 false C64_holds hr2 rfl rfl (AI NH (R2 (AJ (AI (R2 TV) (OL ?_))))))))
 obtain ⟨r3,hr3,q⟩ := bE q
 refine OL (AI f66_in (cV (cQ C66 (r2.2,r2.1,(0:Int),want) r3 [(0,some 6),(1,some 0),(2,some 1)] false C66_holds hr3 rfl rfl (AI rfl (AI NH (R2 (AJ (AI (R3 TV) ?_))))))))
 obtain ⟨r4,hr4,q⟩ := bE q
 refine OL (AI f65_in (cV (cQ C65 (r3.2.2.2,r3.2.1,r3.2.2.1,(3:Int),out,r3.1,(0:Int)) r4 [(0,some 6),(1,some 0),(2,some 10)] false C65_holds hr4 rfl rfl (R4 (AI NH (R2 (AJ (AI (R3 TV) (OL ?_)))))))))
 obtain ⟨r5,hr5,q⟩ := bE q
 refine OL (AI f65_in (cV (cQ C65 (r4.2.2.2,r4.2.1,r4.2.2.1,(4:Int),r4.1,r4.1,(0:Int)) r5 [(0,some 6),(1,some 0),(2,some 14)] false C65_holds hr5 rfl rfl (R4 (AI NH (R2 (AJ (AI (R3 TV) ?_))))))))
 obtain ⟨r6,hr6,q⟩ := bE q
 refine OL (AI f65_in (cV (cQ C65 (r5.2.2.2,r5.2.1,r5.2.2.1,(10:Int),r5.1,(0:Int),(0:Int)) r6 [(0,some 6),(1,some 0),(2,some 18)] false C65_holds hr6 rfl rfl (R4 (AI NH (R2 (AJ (AI (R3 TV) ?_))))))))
 obtain ⟨r7,hr7,q⟩ := bE q
 refine OL (AI f67_in (cV (cQ C67 (r6.2.2.2,r6.2.1,r6.2.2.1,r6.1) r7 [(0,some 6),(1,some 0),(2,some 22)] false C67_holds hr7 rfl rfl (AI rfl (AI NH (R2 (AJ (AI (R3 TV) ?_))))))))
 cases sE q
 refine AI rfl (E4 [(0,some 0),(2,some 26)] (R3 (AI TV (R2 TV))))
theorem C20_holds : HP C20 20 := hH Tryz.f20 (by kernel_rfl) rfl (fun x y q=>C20_vc x.1 x.2.1 x.2.2 y q)
theorem f20_in : InP 20 := inP (by kernel_rfl)
def f21 (t_l : NL) (out:Int) (want : LI) : Option (Int×Int×NL) :=
 bindF (f63 t_l out want) fun r1 =>
 bif (r1.1 != (0:Int)) then
 some ((0:Int),r1.1,r1.2)
 else
 bindF (f64 r1.2) fun r2 =>
 bindF (f66 r2.2 r2.1 (0:Int) want) fun r3 =>
 bindF (f65 r3.2.2.2 r3.2.1 r3.2.2.1 (3:Int) out r3.1 (0:Int)) fun r4 =>
 bindF (f65 r4.2.2.2 r4.2.1 r4.2.2.1 (11:Int) r4.1 (0:Int) (4:Int)) fun r5 =>
 bindF (f65 r5.2.2.2 r5.2.1 r5.2.2.1 (10:Int) r5.1 (0:Int) (0:Int)) fun r6 =>
 bindF (f67 r6.2.2.2 r6.2.1 r6.2.2.1 r6.1) fun r7 =>
 some (r7.1,r7.2.1,r7.2.2.2.2)
def C21 : Con where
 X := NL×Int×LI
 Y := Int×Int×NL
 e := 2
 args x := [P0 0 0,.dat T2 x.2.1,.dat T1 x.2.2]
 hin x := [(0,.cells [(.osl 1)]),(1,.arr 42 T0 x.1)]
 F x := f21 x.1 x.2.1 x.2.2
 ret y := [.dat T2 y.1,.dat T2 y.2.1]
 hout y := [(0,.cells [(.osl 2)]),(2,.arr 42 T0 y.2.2)]
 nout := 3
theorem C21_vc (t_l : NL) (out:Int) (want : LI) (y : Int×Int×NL) (q : f21 t_l out want = some y) : VE Tryz.f21 2 C21 (t_l,out,want) y := by
 unfold f21 at q
 refine OL (OL (OL ?_))
 obtain ⟨r1,hr1,q⟩ := bE q
 refine OL (AI f63_in (cV (cQ C63 (t_l,out,want) r1 I2 false C63_holds hr1 rfl rfl (R2 (AI NH (R2 (AJ (AI (R2 TV) (OL (cI q (fun q=>?_) (fun q=>?_)))))))))))
 ·cases sE q
  refine OL (AI rfl (E4 [(0,some 0),(2,some 1)] (R3 (AI TV (R2 TV)))))
 refine OL ?_
 obtain ⟨r2,hr2,q⟩ := bE q
 refine OL (AI f64_in (cV (cQ C64 r1.2 r2 I2 false C64_holds hr2 rfl rfl (AI NH (R2 (AJ (AI (R2 TV) (OL ?_))))))))
 obtain ⟨r3,hr3,q⟩ := bE q
 refine OL (AI f66_in (cV (cQ C66 (r2.2,r2.1,(0:Int),want) r3 [(0,some 6),(1,some 0),(2,some 1)] false C66_holds hr3 rfl rfl (AI rfl (AI NH (R2 (AJ (AI (R3 TV) ?_))))))))
 obtain ⟨r4,hr4,q⟩ := bE q
 refine OL (AI f65_in (cV (cQ C65 (r3.2.2.2,r3.2.1,r3.2.2.1,(3:Int),out,r3.1,(0:Int)) r4 [(0,some 6),(1,some 0),(2,some 10)] false C65_holds hr4 rfl rfl (R4 (AI NH (R2 (AJ (AI (R3 TV) (OL ?_)))))))))
 obtain ⟨r5,hr5,q⟩ := bE q
 refine OL (AI f65_in (cV (cQ C65 (r4.2.2.2,r4.2.1,r4.2.2.1,(11:Int),r4.1,(0:Int),(4:Int)) r5 [(0,some 6),(1,some 0),(2,some 14)] false C65_holds hr5 rfl rfl (R4 (AI NH (R2 (AJ (AI (R3 TV) ?_))))))))
 obtain ⟨r6,hr6,q⟩ := bE q
 refine OL (AI f65_in (cV (cQ C65 (r5.2.2.2,r5.2.1,r5.2.2.1,(10:Int),r5.1,(0:Int),(0:Int)) r6 [(0,some 6),(1,some 0),(2,some 18)] false C65_holds hr6 rfl rfl (R4 (AI NH (R2 (AJ (AI (R3 TV) ?_))))))))
 obtain ⟨r7,hr7,q⟩ := bE q
 refine OL (AI f67_in (cV (cQ C67 (r6.2.2.2,r6.2.1,r6.2.2.1,r6.1) r7 [(0,some 6),(1,some 0),(2,some 22)] false C67_holds hr7 rfl rfl (AI rfl (AI NH (R2 (AJ (AI (R3 TV) ?_))))))))
 cases sE q
 refine AI rfl (E4 [(0,some 0),(2,some 26)] (R3 (AI TV (R2 TV))))
theorem C21_holds : HP C21 21 := hH Tryz.f21 (by kernel_rfl) rfl (fun x y q=>C21_vc x.1 x.2.1 x.2.2 y q)
theorem f21_in : InP 21 := inP (by kernel_rfl)
def f22_j1 (class_:Int) (r1 : Bool×LI×LI×NL) : Option (Sum Unit Int) :=
 bif (!r1.1) then
 some (Sum.inr (1:Int))
 else
 bif ((List.length r1.2.1:Int) != (1:Int)) then
 some (Sum.inr (4:Int))
 else
 bif (decide (class_ < (0:Int))) then
 some (Sum.inr (4:Int))
 else
 bif (decide (class_ ≥ (List.length r1.2.2.1:Int))) then
 some (Sum.inr (4:Int))
 else
 some (Sum.inl ())
def f22 (t_l : NL) (out:Int) (class_:Int) : Option (Int×Int×NL) :=
 bindF (f58 t_l out) fun r1 =>
 bindF (f22_j1 class_ r1) fun z2 =>
 sumF z2 (fun z2a =>
 bindF (f68 r1.2.1 (0:Int)) fun r3 =>
 bindF (f69 ([(4294967296:Int)]) (List.length r1.2.2.1:Int)) fun r4 =>
 guardF (0 ≤ class_ ∧ class_ < (List.length r3.2.2:Int)) <|
 guardF (0 ≤ class_ ∧ class_ < (List.length r4:Int)) <|
 bindF (f64 r1.2.2.2) fun r5 =>
 bindF (f66 r5.2 r5.1 (0:Int) (List.set r3.2.2 (Int.toNat class_) (-4294967296:Int))) fun r6 =>
 bindF (f66 r6.2.2.2 r6.2.1 r6.2.2.1 (List.set r4 (Int.toNat class_) (0:Int))) fun r7 =>
 bindF (f65 r7.2.2.2 r7.2.1 r7.2.2.1 (4:Int) out r6.1 (0:Int)) fun r8 =>
 bindF (f65 r8.2.2.2 r8.2.1 r8.2.2.1 (9:Int) r8.1 (0:Int) (0:Int)) fun r9 =>
 bindF (f65 r9.2.2.2 r9.2.1 r9.2.2.1 (2:Int) out r9.1 (0:Int)) fun r10 =>
 bindF (f65 r10.2.2.2 r10.2.1 r10.2.2.1 (2:Int) r10.1 r7.1 (0:Int)) fun r11 =>
 bindF (f65 r11.2.2.2 r11.2.1 r11.2.2.1 (11:Int) r11.1 (0:Int) (1:Int)) fun r12 =>
 bindF (f65 r12.2.2.2 r12.2.1 r12.2.2.1 (4:Int) r12.1 r7.1 (0:Int)) fun r13 =>
 bindF (f65 r13.2.2.2 r13.2.1 r13.2.2.1 (9:Int) r13.1 (0:Int) (0:Int)) fun r14 =>
 bindF (f67 r14.2.2.2 r14.2.1 r14.2.2.1 r14.1) fun r15 =>
 some (r15.1,r15.2.1,r15.2.2.2.2)) (fun z2b =>
 some ((0:Int),z2b,r1.2.2.2))
def C22 : Con where
 X := NL×Int×Int
 Y := Int×Int×NL
 e := 2
 args x := [P0 0 0,.dat T2 x.2.1,.dat T2 x.2.2]
 hin x := [(0,.cells [(.osl 1)]),(1,.arr 42 T0 x.1)]
 F x := f22 x.1 x.2.1 x.2.2
 ret y := [.dat T2 y.1,.dat T2 y.2.1]
 hout y := [(0,.cells [(.osl 2)]),(2,.arr 42 T0 y.2.2)]
 nout := 3
theorem C22_vc (t_l : NL) (out:Int) (class_:Int) (y : Int×Int×NL) (q : f22 t_l out class_ = some y) : VE Tryz.f22 2 C22 (t_l,out,class_) y := by
 unfold f22 at q
 refine OL (OL ?_)
 obtain ⟨r1,hr1,q⟩ := bE q
 refine OL (AI f58_in (cV (cQ C58 (t_l,out) r1 I2 false C58_holds hr1 rfl rfl (AI rfl (AI NH (R2 (AJ (AI (R2 TV) (OL ?_)))))))))
 obtain ⟨z2,hz2,q⟩ := bE q
 refine OQ ⟨Sum.elim (fun z2a=>[(0,⟨[(0,P0 0 0),(1,.dat T2 out),(2,.dat T2 class_),(8,P0 2 0)],[(0,.cells [(.osl 1)]),(1,.arr 42 T0 r1.2.2.2),(2,.cells [(.osl 3),(.osl 4)]),(3,.arr 3 T2 r1.2.1),(4,.arr 40 T2 r1.2.2.1)],5⟩)]) (fun z2b=>[(1,⟨[(6,D0 0),(7,.dat T2 z2b)],[(0,.cells [(.osl 1)]),(1,.arr 42 T0 r1.2.2.2)],2⟩)]) z2,?_,?_⟩
 ·have q := hz2
  clear hz2
  unfold f22_j1 at q
  refine OL (cI q (fun q=>?_) (fun q=>?_))
  ·cases sE q
   refine OL (E4 I2 (R3 (AI TV (R2 TV))))
  refine OL (cN q (fun q=>?_) (fun q=>?_))
  ·refine gY (cF (cN q (fun q=>?_) (fun q=>?_)))
   ·refine gY (gY (gY (gY (cF (cI q (fun q=>?_) (fun q=>?_))))))
    ·cases sE q
     refine OL (E4 I2 (R3 (AI TV (R2 TV))))
    cases sE q
    refine E4 [(0,some 0),(1,some 1),(2,some 6),(3,some 4),(4,some 5)] (R3 (AI (R2 TV) (R5 TV)))
   refine gN (gN (gN (gN (cT (cT (OL ?_))))))
   cases sE q
   refine E4 I2 (R3 (AI TV (R2 TV)))
  refine gN (cT (gN (gN (gN (gN (gN (cT (cT (OL ?_)))))))))
  cases sE q
  refine E4 I2 (R3 (AI TV (R2 TV)))
 rcases z2 with z2a | z2b
 ·dsimp only [sumF] at q
  refine AI (OL ?_) TV
  obtain ⟨r3,hr3,q⟩ := bE q
  refine OL (AI f68_in (cV (cQ C68 (r1.2.1,(0:Int)) r3 [] true C68_holds hr3 rfl rfl (R2 (AI (fun _=>rfl) (R2 (AI TV (AI TV (OL (OL (OL ?_)))))))))))
  obtain ⟨r4,hr4,q⟩ := bE q
  refine OL (AI f69_in (cV (cQ C69 ([(4294967296:Int)],(List.length r1.2.2.1:Int)) r4 [] true C69_holds hr4 rfl rfl (R2 (AI (fun _=>rfl) (R2 (AI TV (AI TV (OL (gI q (fun q=>?_)))))))))))
  refine OL (gI q (fun q=>?_))
  refine OL (OL ?_)
  obtain ⟨r5,hr5,q⟩ := bE q
  refine OL (AI f64_in (cV (cQ C64 r1.2.2.2 r5 I2 false C64_holds hr5 rfl rfl (AI NH (R2 (AJ (AI (R2 TV) (OL ?_))))))))
  obtain ⟨r6,hr6,q⟩ := bE q
  have hr6 : C66.F (r5.2,r5.1,(0:Int),(List.set r3.2.2 (Int.toNat class_) (-4294967296:Int))) = some r6 := hr6
  refine OL (AI f66_in (cV (cQ C66 _ r6 [(0,some 12),(1,some 0),(2,some 1)] false C66_holds hr6 rfl rfl (AI rfl (AI NH (R2 (AJ (AI (R3 TV) (OL ?_)))))))))
  obtain ⟨r7,hr7,q⟩ := bE q
  refine OL (AI f66_in (cV (cQ C66 (r6.2.2.2,r6.2.1,r6.2.2.1,(List.set r4 (Int.toNat class_) (0:Int))) r7 [(0,some 12),(1,some 0),(2,some 16)] false C66_holds hr7 rfl rfl (AI rfl (AI NH (R2 (AJ (AI (R3 TV) (OL ?_)))))))))
  obtain ⟨r8,hr8,q⟩ := bE q
  refine OL (AI f65_in (cV (cQ C65 (r7.2.2.2,r7.2.1,r7.2.2.1,(4:Int),out,r6.1,(0:Int)) r8 [(0,some 12),(1,some 0),(2,some 20)] false C65_holds hr8 rfl rfl (R4 (AI NH (R2 (AJ (AI (R3 TV) ?_))))))))
  obtain ⟨r9,hr9,q⟩ := bE q
  refine OL (AI f65_in (cV (cQ C65 (r8.2.2.2,r8.2.1,r8.2.2.1,(9:Int),r8.1,(0:Int),(0:Int)) r9 [(0,some 12),(1,some 0),(2,some 24)] false C65_holds hr9 rfl rfl (R4 (AI NH (R2 (AJ (AI (R3 TV) (OL ?_)))))))))
  obtain ⟨r10,hr10,q⟩ := bE q
  refine OL (AI f65_in (cV (cQ C65 (r9.2.2.2,r9.2.1,r9.2.2.1,(2:Int),out,r9.1,(0:Int)) r10 [(0,some 12),(1,some 0),(2,some 28)] false C65_holds hr10 rfl rfl (R4 (AI NH (R2 (AJ (AI (R3 TV) ?_))))))))
  obtain ⟨r11,hr11,q⟩ := bE q
  refine OL (AI f65_in (cV (cQ C65 (r10.2.2.2,r10.2.1,r10.2.2.1,(2:Int),r10.1,r7.1,(0:Int)) r11 [(0,some 12),(1,some 0),(2,some 32)] false C65_holds hr11 rfl rfl (R4 (AI NH (R2 (AJ (AI (R3 TV) (OL ?_)))))))))
  obtain ⟨r12,hr12,q⟩ := bE q
  refine OL (AI f65_in (cV (cQ C65 (r11.2.2.2,r11.2.1,r11.2.2.1,(11:Int),r11.1,(0:Int),(1:Int)) r12 [(0,some 12),(1,some 0),(2,some 36)] false C65_holds hr12 rfl rfl (R4 (AI NH (R2 (AJ (AI (R3 TV) ?_))))))))
  obtain ⟨r13,hr13,q⟩ := bE q
  refine OL (AI f65_in (cV (cQ C65 (r12.2.2.2,r12.2.1,r12.2.2.1,(4:Int),r12.1,r7.1,(0:Int)) r13 [(0,some 12),(1,some 0),(2,some 40)] false C65_holds hr13 rfl rfl (R4 (AI NH (R2 (AJ (AI (R3 TV) ?_))))))))
  obtain ⟨r14,hr14,q⟩ := bE q
  refine OL (AI f65_in (cV (cQ C65 (r13.2.2.2,r13.2.1,r13.2.2.1,(9:Int),r13.1,(0:Int),(0:Int)) r14 [(0,some 12),(1,some 0),(2,some 44)] false C65_holds hr14 rfl rfl (R4 (AI NH (R2 (AJ (AI (R3 TV) ?_))))))))
  obtain ⟨r15,hr15,q⟩ := bE q
  refine OL (AI f67_in (cV (cQ C67 (r14.2.2.2,r14.2.1,r14.2.2.1,r14.1) r15 [(0,some 12),(1,some 0),(2,some 48)] false C67_holds hr15 rfl rfl (AI rfl (AI NH (R2 (AJ (AI (R3 TV) ?_))))))))
  cases sE q
  refine AI rfl (E4 [(0,some 0),(2,some 52)] (R3 (AI TV (R2 TV))))
 dsimp only [sumF] at q
 refine AI ?_ TV
 cases sE q
 refine AI rfl (E4 [(0,some 0),(2,some 1)] (R3 (AI TV (R2 TV))))
theorem C22_holds : HP C22 22 := hH Tryz.f22 (by kernel_rfl) rfl (fun x y q=>C22_vc x.1 x.2.1 x.2.2 y q)
theorem f22_in : InP 22 := inP (by kernel_rfl)
def f73_l1 (a : LI) (b : LI) (go : Int → Option (Sum Unit Unit)) (i:Int) : Option (Sum Unit Unit) :=
 bif (decide (i < (List.length a:Int))) then
 guardF (0 ≤ i ∧ i < (List.length a:Int)) <|
 guardF (0 ≤ i ∧ i < (List.length b:Int)) <|
 bif ((rd (0:Int) a i) != (rd (0:Int) b i)) then
 some (Sum.inl ())
 else
 go (i64.wrap (i + (1:Int)))
 else
 some (Sum.inr ())
def f73 (a : LI) (b : LI) : Option Bool :=
 bif ((List.length a:Int) != (List.length b:Int)) then
 some false
 else
 bindF (loopF (fun go x=>f73_l1 a b go x) fuelN (0:Int)) fun z1 =>
 sumF z1 (fun z1a =>
 some false) (fun z1b =>
 some true)
def C73 : Con where
 X := LI×LI
 Y := Bool
 e := 0
 args x := [.dat T1 x.1,.dat T1 x.2]
 hin x := []
 F x := f73 x.1 x.2
 ret y := [.dat .bool y]
 hout y := []
 nout := 0
theorem C73_vc (a : LI) (b : LI) (y : Bool) (q : f73 a b = some y) : VC Tryz.f73 C73 (a,b) y := by
 unfold f73 at q
 refine OL (OL (OL (cI q (fun q=>?_) (fun q=>?_))))
 ·cases sE q
  refine OL (AI rfl (E4 [] (R2 (AI TV TV))))
 refine OL (OL ?_)
 obtain ⟨z1,hz1,q⟩ := bE q
 refine lI Int (Sum Unit Unit) (fun x=>⟨[(0,.dat T1 a),(1,.dat T1 b),(5,.dat T2 x)],[],0⟩) (fun z=>Sum.elim (fun za=>[(1,⟨[(4,.dat .bool false)],[],0⟩)]) (fun zb=>[(2,⟨[],[],0⟩)]) z) (loopF (fun go x=>f73_l1 a b go x)) fuelN (0:Int) z1 (AI hz1 (AI (E4 [] (R4 (AI TV TV))) (AI (fun _ _ h=>lZ h) (AI (fun m=>fun i z q=>?_) ?_))))
 ·have q : f73_l1 a b (loopF (fun go x=>f73_l1 a b go x) m) i = some z := q
  unfold f73_l1 at q
  refine OL (OL (cI q (fun q=>?_) (fun q=>?_)))
  ·refine OL (OL (EI (.take 0 (.take 1 (.take 2 (.take 3 (.take 4 (.take 5 (.take 6 (.take 7 (.take 8 .done))))))))) (EI [] (EI [] (AI rfl (gI q (fun q=>?_)))))))
   refine gI q (fun q=>?_)
   refine cI q (fun q=>?_) (fun q=>?_)
   ·cases sE q
    refine OL (E4 [] (R2 (AI TV TV)))
   refine EI (i64.wrap (i + (1:Int))) (AI q (E4 [] (R4 (AI TV TV))))
  cases sE q
  refine E4 [] (AI rfl (AI TV TV))
 rcases z1 with z1a | z1b
 ·dsimp only [sumF] at q
  refine AI ?_ TV
  cases sE q
  refine AI rfl (E4 [] (R2 (AI TV TV)))
 dsimp only [sumF] at q
 refine AI (OL ?_) TV
 cases sE q
 refine AI rfl (E4 [] (R2 (AI TV TV)))
theorem C73_holds : HP C73 73 := hH Tryz.f73 (by kernel_rfl) rfl (fun x y q=>C73_vc x.1 x.2 y q)
theorem f73_in : InP 73 := inP (by kernel_rfl)
def f162_l1 (s1 : LI) (s2 : LI) (go : Int → Option (Sum Unit Unit)) (v13:Int) : Option (Sum Unit Unit) :=
 bif (decide (v13 < (List.length s1:Int))) then
 guardF (0 ≤ v13 ∧ v13 < (List.length s1:Int)) <|
 guardF (0 ≤ v13 ∧ v13 < (List.length s2:Int)) <|
 bif ((rd (0:Int) s1 v13) != (rd (0:Int) s2 v13)) then
 some (Sum.inl ())
 else
 go (i64.wrap (v13 + (1:Int)))
 else
 some (Sum.inr ())
def f162 (s1 : LI) (s2 : LI) : Option Bool :=
 bif ((List.length s1:Int) != (List.length s2:Int)) then
 some false
 else
 bindF (loopF (fun go x=>f162_l1 s1 s2 go x) fuelN (0:Int)) fun z1 =>
 sumF z1 (fun z1a =>
 some false) (fun z1b =>
 some true)
def C162 : Con where
 X := LI×LI
 Y := Bool
 e := 0
 args x := [.dat T1 x.1,.dat T1 x.2]
 hin x := []
 F x := f162 x.1 x.2
 ret y := [.dat .bool y]
 hout y := []
 nout := 0
theorem C162_vc (s1 : LI) (s2 : LI) (y : Bool) (q : f162 s1 s2 = some y) : VC Tryz.f162 C162 (s1,s2) y := by
 unfold f162 at q
 refine OL (OL (OL (cI q (fun q=>?_) (fun q=>?_))))
 ·cases sE q
  refine OL (AI rfl (E4 [] (R2 (AI TV TV))))
 refine OL (OL ?_)
 obtain ⟨z1,hz1,q⟩ := bE q
 refine lI Int (Sum Unit Unit) (fun x=>⟨[(0,.dat T1 s1),(1,.dat T1 s2),(12,.dat T2 (List.length s1:Int)),(13,.dat T2 x)],[],0⟩) (fun z=>Sum.elim (fun za=>[(1,⟨[(4,.dat .bool false)],[],0⟩)]) (fun zb=>[(2,⟨[],[],0⟩)]) z) (loopF (fun go x=>f162_l1 s1 s2 go x)) fuelN (0:Int) z1 (AI hz1 (AI (E4 [] (R5 (AI TV TV))) (AI (fun _ _ h=>lZ h) (AI (fun m=>fun v13 z q=>?_) ?_))))
 ·have q : f162_l1 s1 s2 (loopF (fun go x=>f162_l1 s1 s2 go x) m) v13 = some z := q
  unfold f162_l1 at q
  refine OL (OL (cI q (fun q=>?_) (fun q=>?_)))
  ·refine OL (OL (OL (EI (.take 0 (.take 1 (.take 2 (.take 3 (.take 4 (.take 5 (.take 6 (.take 7 (.take 8 .done))))))))) (EI [] (EI [] (AI rfl (gI q (fun q=>?_))))))))
   refine gI q (fun q=>?_)
   refine cI q (fun q=>?_) (fun q=>?_)
   ·cases sE q
    refine OL (E4 [] (R2 (AI TV TV)))
   refine EI (i64.wrap (v13 + (1:Int))) (AI q (E4 [] (R5 (AI TV TV))))
  cases sE q
  refine E4 [] (AI rfl (AI TV TV))
 rcases z1 with z1a | z1b
 ·dsimp only [sumF] at q
  refine AI ?_ TV
  cases sE q
  refine AI rfl (E4 [] (R2 (AI TV TV)))
 dsimp only [sumF] at q
 refine AI (OL ?_) TV
 cases sE q
 refine AI rfl (E4 [] (R2 (AI TV TV)))
theorem C162_holds : HP C162 162 := hH Tryz.f162 (by kernel_rfl) rfl (fun x y q=>C162_vc x.1 x.2 y q)
theorem f162_in : InP 162 := inP (by kernel_rfl)
def f110 (a : LI) (b : LI) : Option Bool :=
 bindF (f162 a b) fun r1 =>
 some r1
def C110 : Con where
 X := LI×LI
 Y := Bool
 e := 0
 args x := [.dat T1 x.1,.dat T1 x.2]
 hin x := []
 F x := f110 x.1 x.2
 ret y := [.dat .bool y]
 hout y := []
 nout := 0
theorem C110_vc (a : LI) (b : LI) (y : Bool) (q : f110 a b = some y) : VC Tryz.f110 C110 (a,b) y := by
 unfold f110 at q
 refine OL (OL ?_)
 obtain ⟨r1,hr1,q⟩ := bE q
 refine OL (AI f162_in (cV (cQ C162 (a,b) r1 [] false C162_holds hr1 rfl rfl (R2 (K0 ?_)))))
 cases sE q
 refine AI rfl (E4 [] (R2 (AI TV TV)))
theorem C110_holds : HP C110 110 := hH Tryz.f110 (by kernel_rfl) rfl (fun x y q=>C110_vc x.1 x.2 y q)
theorem f110_in : InP 110 := inP (by kernel_rfl)
def f163_j3 (a : LI×LI) (d : LI) : Option Bool :=
 bindF (f59 (a.1,a.2)) fun r9 =>
 bif (!r9) then
 some true
 else
 bindF (f99 d) fun r10 =>
 some (!r10)
def f163_j2 (a : LI×LI) (d : LI) : Option (Sum Unit Unit) :=
 bindF (f163_j3 a d) fun z8 =>
 bif z8 then
 some (Sum.inr ())
 else
 some (Sum.inl ())
def f163_j6 (a : LI×LI) (r11 : Int×LI) : Option Bool :=
 bif (r11.1 != (0:Int)) then
 some true
 else
 bindF (f110 r11.2 a.1) fun r18 =>
 some (!r18)
def f163_j5 (a : LI×LI) (r11 : Int×LI) : Option (Sum Unit Unit) :=
 bindF (f163_j6 a r11) fun z17 =>
 bif z17 then
 some (Sum.inr ())
 else
 some (Sum.inl ())
def f163_l7 (a : LI×LI) (r20 : LI) (go : (Int×LI) → Option LI) (v51:Int) (l4 : LI) : Option LI :=
 bif (decide (v51 < (List.length a.2:Int))) then
 guardF (0 ≤ v51 ∧ v51 < (List.length a.2:Int)) <|
 guardF (0 ≤ v51 ∧ v51 < (List.length r20:Int)) <|
 guardF (0 ≤ v51 ∧ v51 < (List.length r20:Int)) <|
 guardF (0 ≤ (rd (0:Int) r20 v51) ∧ (rd (0:Int) r20 v51) < (List.length l4:Int)) <|
 bindF (f143 (rd (0:Int) l4 (rd (0:Int) r20 v51)) (rd (0:Int) a.2 v51)) fun q11_15 =>
 guardF (0 ≤ (rd (0:Int) r20 v51) ∧ (rd (0:Int) r20 v51) < (List.length l4:Int)) <|
 go ((i64.wrap (v51 + (1:Int))),(List.set l4 (Int.toNat (rd (0:Int) r20 v51)) q11_15))
 else
 some l4
def f163 (a : LI×LI) (d : LI) : Option (Int×LI×LI) :=
 bindF (f163_j2 a d) fun z5 =>
 sumF z5 (fun z5a =>
 bindF (f209 d a.1) fun r11 =>
 bindF (f163_j5 a r11) fun z15 =>
 sumF z15 (fun z15a =>
 bindF (f68 d (0:Int)) fun r19 =>
 bindF (f210 d a.1) fun r20 =>
 bindF (loopF (fun go x=>f163_l7 a r20 go x.1 x.2) fuelN ((0:Int),r19.2.2)) fun z21 =>
 some ((0:Int),r19.2.1,z21)) (fun z15b =>
 some ((4:Int),[],[]))) (fun z5b =>
 some ((1:Int),[],[]))
def C163 : Con where
 X := (LI×LI)×LI
 Y := Int×LI×LI
 e := 0
 args x := [.dat T3 x.1,.dat T1 x.2]
 hin x := []
 F x := f163 x.1 x.2
 ret y := [.raw true [(.osl 0),(.osl 1)],.dat T2 y.1]
 hout y := [(0,.arr 3 T2 y.2.1),(1,.arr 40 T2 y.2.2)]
 nout := 2
theorem C163_vc (a : LI×LI) (d : LI) (y : Int×LI×LI) (q : f163 a d = some y) : VC Tryz.f163 C163 (a,d) y := by
 unfold f163 at q
 refine OL ?_
 obtain ⟨z5,hz5,q⟩ := bE q
 refine OQ ⟨Sum.elim (fun z5a=>[(0,⟨[(1,.dat T1 d),(2,P0 0 0),(4,P0 1 0)],[(0,.cells [(.d T1 a.1),(.d T1 a.2)]),(1,.cells [N0,N0])],2⟩)]) (fun z5b=>[(1,⟨[(4,P0 0 0),(5,D0 1)],[(0,.cells [N0,N0])],1⟩)]) z5,?_,?_⟩
 ·have q := hz5
  clear hz5
  unfold f163_j2 at q
  obtain ⟨z8,hz8,q⟩ := bE q
  refine OQ ⟨[(0,⟨[(1,.dat T1 d),(2,P0 0 0),(4,P0 1 0),(20,.dat .bool z8)],[(0,.cells [(.d T1 a.1),(.d T1 a.2)]),(1,.cells [N0,N0])],2⟩)],?_,?_⟩
  ·have q := hz8
   clear hz8
   unfold f163_j3 at q
   obtain ⟨r9,hr9,q⟩ := bE q
   refine OL (AI f59_in (cV (cQ C59 (a.1,a.2) r9 [] false C59_holds hr9 rfl rfl (R2 (K0 (cN q (fun q=>?_) (fun q=>?_)))))))
   ·refine gY ?_
    obtain ⟨r10,hr10,q⟩ := bE q
    refine OL (AI f99_in (cV (cQ C99 d r10 [] false C99_holds hr10 rfl rfl (AI rfl (K0 (gY (cF ?_)))))))
    cases sE q
    refine E4 I2 (R3 (AI (R2 TV) (R2 TV)))
   refine gN (gN (cT ?_))
   cases sE q
   refine E4 I2 (R3 (AI (R2 TV) (R2 TV)))
  refine AI (cI q (fun q=>?_) (fun q=>?_)) TV
  ·refine OL (OL ?_)
   cases sE q
   refine E4 [(0,some 1)] (R2 (AJ (AI rfl TV)))
  cases sE q
  refine E4 I2 (R2 (AI (R2 TV) (R2 TV)))
 rcases z5 with z5a | z5b
 ·dsimp only [sumF] at q
  refine AI (OL ?_) TV
  obtain ⟨r11,hr11,q⟩ := bE q
  refine OL (AI f209_in (cV (cQ C209 (d,a.1) r11 [] false C209_holds hr11 rfl rfl (R2 (K0 ?_)))))
  obtain ⟨z15,hz15,q⟩ := bE q
  refine OQ ⟨Sum.elim (fun z15a=>[(0,⟨[(1,.dat T1 d),(2,P0 0 0),(4,P0 1 0)],[(0,.cells [(.d T1 a.1),(.d T1 a.2)]),(1,.cells [N0,N0])],2⟩)]) (fun z15b=>[(1,⟨[(4,P0 0 0),(5,D0 4)],[(0,.cells [N0,N0])],1⟩)]) z15,?_,?_⟩
  ·have q := hz15
   clear hz15
   unfold f163_j5 at q
   obtain ⟨z17,hz17,q⟩ := bE q
   refine OQ ⟨[(0,⟨[(1,.dat T1 d),(2,P0 0 0),(4,P0 1 0),(37,.dat .bool z17)],[(0,.cells [(.d T1 a.1),(.d T1 a.2)]),(1,.cells [N0,N0])],2⟩)],?_,?_⟩
   ·have q := hz17
    clear hz17
    unfold f163_j6 at q
    refine cN q (fun q=>?_) (fun q=>?_)
    ·refine gY (gY (gY ?_))
     obtain ⟨r18,hr18,q⟩ := bE q
     refine OL (AI f110_in (cV (cQ C110 (r11.2,a.1) r18 [] true C110_holds hr18 rfl rfl (R2 (AI (fun _=>rfl) (R2 (AI TV (AI TV (gY (cF ?_))))))))))
     cases sE q
     refine E4 I2 (R3 (AI (R2 TV) (R2 TV)))
    refine gN (gN (gN (gN (cT ?_))))
    cases sE q
    refine E4 I2 (R3 (AI (R2 TV) (R2 TV)))
   refine AI (cI q (fun q=>?_) (fun q=>?_)) TV
   ·refine OL (OL ?_)
    cases sE q
    refine E4 [(0,some 1)] (R2 (AJ (AI rfl TV)))
   cases sE q
   refine E4 I2 (R2 (AI (R2 TV) (R2 TV)))
  rcases z15 with z15a | z15b
  ·dsimp only [sumF] at q
   refine AI (OL ?_) TV
   obtain ⟨r19,hr19,q⟩ := bE q
   refine OL (AI f68_in (cV (cQ C68 (d,(0:Int)) r19 [] false C68_holds hr19 rfl rfl (R2 (K0 (OL (OL ?_)))))))
   obtain ⟨r20,hr20,q⟩ := bE q
   refine OL (AI f210_in (cV (cQ C210 (d,a.1) r20 [] false C210_holds hr20 rfl rfl (R2 (K0 (OL (OL ?_)))))))
   obtain ⟨z21,hz21,q⟩ := bE q
   refine lI (Int×LI) LI (fun x=>⟨[(4,P0 0 0),(8,P0 1 0),(10,O0 2),(49,.dat T1 a.2),(50,.dat T2 (List.length a.2:Int)),(51,.dat T2 x.1)],[(0,.cells [N0,N0]),(1,.cells [(.osl 3),(.osl 4)]),(2,.arr 3 T2 r20),(3,.arr 3 T2 r19.2.1),(4,.arr 40 T2 x.2)],5⟩) (fun z=>[(2,⟨[(4,P0 0 0),(8,P0 1 0)],[(0,.cells [N0,N0]),(1,.cells [(.osl 2),(.osl 3)]),(2,.arr 3 T2 r19.2.1),(3,.arr 40 T2 z)],4⟩)]) (loopF (fun go x=>f163_l7 a r20 go x.1 x.2)) fuelN ((0:Int),r19.2.2) z21 (AI hz21 (AI (E4 [(0,some 1),(1,some 4),(2,some 5),(3,some 2),(4,some 3)] (R4 (AI (R3 TV) (R5 TV)))) (AI (fun _ _ h=>lZ h) (AI (fun m=>curI (fun v51=>fun l4 z q=>?_)) ?_))))
   ·have q : f163_l7 a r20 (loopF (fun go x=>f163_l7 a r20 go x.1 x.2) m) v51 l4 = some z := q
    unfold f163_l7 at q
    refine OL (OL (cI q (fun q=>?_) (fun q=>?_)))
    ·refine OL (OL (gI q (fun q=>?_)))
     refine EI (.take 0 (.take 1 (.take 2 (.take 3 (.take 4 (.take 5 (.take 6 (.take 7 (.take 8 (.take 9 (.take 10 (.take 11 (.take 12 (.take 13 (.take 14 (.alt 15 (.take 16 (.alt 17 .done .done)) .done)))))))))))))))) (EI [(17,[4])] (EI [] (AI rfl (gI q (fun q=>?_)))))
     refine gI q (fun q=>?_)
     refine gI q (fun q=>?_)
     refine AI TV ?_
     obtain ⟨q11_15,hq11_15,q⟩ := bE q
     refine OL (AI f143_in (cV (cQ C143 ((rd (0:Int) l4 (rd (0:Int) r20 v51)),(rd (0:Int) a.2 v51)) q11_15 [] false C143_holds hq11_15 rfl rfl (R2 (K0 (gI q (fun q=>?_)))))))
     refine AI TV (OL (EI ((i64.wrap (v51 + (1:Int))),(List.set l4 (Int.toNat (rd (0:Int) r20 v51)) q11_15)) (AI q (E4 I5 (R4 (AI (R3 TV) (R5 TV)))))))
    cases sE q
    refine E4 [(0,some 0),(1,some 1),(2,some 3),(3,some 4)] (AI rfl (AI (R2 TV) (R4 TV)))
   refine AI (OL (OL ?_)) TV
   cases sE q
   refine AI rfl (E4 [(0,some 2),(1,some 3)] (R2 (AJ (R2 TV))))
  dsimp only [sumF] at q
  refine AI ?_ TV
  cases sE q
  refine AI rfl (E4 [(0,none),(1,none)] (R2 (AJ (R2 TV))))
 dsimp only [sumF] at q
 refine AI ?_ TV
 cases sE q
 refine AI rfl (E4 [(0,none),(1,none)] (R2 (AJ (R2 TV))))
theorem C163_holds : HP C163 163 := hH Tryz.f163 (by kernel_rfl) rfl (fun x y q=>C163_vc x.1 x.2 y q)
theorem f163_in : InP 163 := inP (by kernel_rfl)
def f165 (t : LI×LI) (e:Int) (d : LI) : Option (Int×LI×LI) :=
 bif (e != (0:Int)) then
 some (e,[],[])
 else
 bindF (f163 (t.1,t.2) d) fun r1 =>
 some (r1.1,r1.2.1,r1.2.2)
def C165 : Con where
 X := (LI×LI)×Int×LI
 Y := Int×LI×LI
 e := 0
 args x := [.dat T3 x.1,.dat T2 x.2.1,.dat T1 x.2.2]
 hin x := []
 F x := f165 x.1 x.2.1 x.2.2
 ret y := [.raw true [(.osl 0),(.osl 1)],.dat T2 y.1]
 hout y := [(0,.arr 3 T2 y.2.1),(1,.arr 40 T2 y.2.2)]
 nout := 2
theorem C165_vc (t : LI×LI) (e:Int) (d : LI) (y : Int×LI×LI) (q : f165 t e d = some y) : VC Tryz.f165 C165 (t,e,d) y := by
 unfold f165 at q
 refine OL (OL (OL (cI q (fun q=>?_) (fun q=>?_))))
 ·refine OL (OL ?_)
  cases sE q
  refine AI rfl (E4 [(0,none),(1,none)] (R2 (AJ (R2 TV))))
 refine OL ?_
 obtain ⟨r1,hr1,q⟩ := bE q
 refine OL (AI f163_in (cV (cQ C163 ((t.1,t.2),d) r1 [] false C163_holds hr1 rfl rfl (R3 (K0 (OL ?_))))))
 cases sE q
 refine AI rfl (E4 [(0,some 2),(1,some 3)] (R2 (AJ (R2 TV))))
theorem C165_holds : HP C165 165 := hH Tryz.f165 (by kernel_rfl) rfl (fun x y q=>C165_vc x.1 x.2.1 x.2.2 y q)
theorem f165_in : InP 165 := inP (by kernel_rfl)
def f167 (a : LI×LI) (b : LI×LI) (first : Bool) : Option (Int×LI×LI) :=
 none
def C167 : Con where
 X := (LI×LI)×(LI×LI)×Bool
 Y := Int×LI×LI
 e := 0
 args x := [.dat T3 x.1,.dat T3 x.2.1,.dat .bool x.2.2]
 hin x := []
 F x := f167 x.1 x.2.1 x.2.2
 ret y := [.raw true [(.osl 0),(.osl 1)],.dat T2 y.1]
 hout y := [(0,.arr 3 T2 y.2.1),(1,.arr 40 T2 y.2.2)]
 nout := 2
theorem C167_vc (a : LI×LI) (b : LI×LI) (first : Bool) (y : Int×LI×LI) (q : f167 a b first = some y) : VC Tryz.f167 C167 (a,b,first) y := by
 unfold f167 at q
 exact nomatch q
theorem C167_holds : HP C167 167 := hH Tryz.f167 (by kernel_rfl) rfl (fun x y q=>C167_vc x.1 x.2.1 x.2.2 y q)
theorem f167_in : InP 167 := inP (by kernel_rfl)
def f169_l1 (g : LI×LI) (d : LI) (side:Int) (q8_9 : Int×LI×LI) (go : (Int×LI) → Option LI) (v23:Int) (l4 : LI) : Option LI :=
 bif (decide (v23 < (List.length q8_9.2.2:Int))) then
 bindF (f213 d v23) fun q8_9 =>
 guardF (0 ≤ side ∧ side ≤ (List.length q8_9.2:Int)) <|
 guardF (0 ≤ (i64.wrap (side + (1:Int))) ∧ (i64.wrap (side + (1:Int))) ≤ (List.length q8_9.2:Int)) <|
 guardF ((List.length ([] : LI) + List.length (List.take (Int.toNat side) q8_9.2)) * 8 ≤ 140737488355328) <|
 guardF ((List.length (([] : LI) ++ (List.take (Int.toNat side) q8_9.2)) + List.length (List.drop (Int.toNat (i64.wrap (side + (1:Int)))) q8_9.2)) * 8 ≤ 140737488355328) <|
 bindF (f214 g.1 ((([] : LI) ++ (List.take (Int.toNat side) q8_9.2)) ++ (List.drop (Int.toNat (i64.wrap (side + (1:Int)))) q8_9.2))) fun q6_10 =>
 guardF (0 ≤ q6_10.1 ∧ q6_10.1 < (List.length g.2:Int)) <|
 guardF (0 ≤ v23 ∧ v23 < (List.length l4:Int)) <|
 go ((i64.wrap (v23 + (1:Int))),(List.set l4 (Int.toNat v23) (rd (0:Int) g.2 q6_10.1)))
 else
 some l4
def f169 (g : LI×LI) (d : LI) (side:Int) : Option (LI×LI) :=
 bindF (f68 d (0:Int)) fun q8_9 =>
 bindF (loopF (fun go x=>f169_l1 g d side q8_9 go x.1 x.2) fuelN ((0:Int),q8_9.2.2)) fun z2 =>
 some (q8_9.2.1,z2)
def C169 : Con where
 X := (LI×LI)×LI×Int
 Y := LI×LI
 e := 0
 args x := [.dat T3 x.1,.dat T1 x.2.1,.dat T2 x.2.2]
 hin x := []
 F x := f169 x.1 x.2.1 x.2.2
 ret y := [.raw true [(.osl 0),(.osl 1)]]
 hout y := [(0,.arr 3 T2 y.1),(1,.arr 40 T2 y.2)]
 nout := 2
theorem C169_vc (g : LI×LI) (d : LI) (side:Int) (y : LI×LI) (q : f169 g d side = some y) : VC Tryz.f169 C169 (g,d,side) y := by
 unfold f169 at q
 refine OL (OL ?_)
 obtain ⟨q8_9,hq8_9,q⟩ := bE q
 refine OL (AI f68_in (cV (cQ C68 (d,(0:Int)) q8_9 [] false C68_holds hq8_9 rfl rfl (R2 (K0 (OL (OL (OL ?_))))))))
 obtain ⟨z2,hz2,q⟩ := bE q
 refine lI (Int×LI) LI (fun x=>⟨[(1,.dat T1 d),(2,.dat T2 side),(3,P0 0 0),(6,P0 1 0),(7,P0 2 0),(22,.dat T2 (List.length q8_9.2.2:Int)),(23,.dat T2 x.1)],[(0,.cells [(.d T1 g.1),(.d T1 g.2)]),(1,.cells [N0,N0]),(2,.cells [(.osl 3),(.osl 4)]),(3,.arr 3 T2 q8_9.2.1),(4,.arr 40 T2 x.2)],5⟩) (fun z=>[(2,⟨[(6,P0 0 0),(7,P0 1 0)],[(0,.cells [N0,N0]),(1,.cells [(.osl 2),(.osl 3)]),(2,.arr 3 T2 q8_9.2.1),(3,.arr 40 T2 z)],4⟩)]) (loopF (fun go x=>f169_l1 g d side q8_9 go x.1 x.2)) fuelN ((0:Int),q8_9.2.2) z2 (AI hz2 (AI (E4 [(0,some 0),(1,some 1),(2,some 4),(3,some 2),(4,some 3)] (R5 (AI (R3 TV) (R5 TV)))) (AI (fun _ _ h=>lZ h) (AI (fun m=>curI (fun v23=>fun l4 z q=>?_)) ?_))))
 ·have q : f169_l1 g d side q8_9 (loopF (fun go x=>f169_l1 g d side q8_9 go x.1 x.2) m) v23 l4 = some z := q
  unfold f169_l1 at q
  refine OL (OL (cI q (fun q=>?_) (fun q=>?_)))
  ·refine OL (OL (OL ?_))
   obtain ⟨q8_9,hq8_9,q⟩ := bE q
   refine OL (AI f213_in (cV (cQ C213 (d,v23) q8_9 [] false C213_holds hq8_9 rfl rfl (R2 (K0 (OL (EI (.take 1 (.take 2 (.take 3 (.take 5 (.take 6 (.take 7 (.take 8 (.alt 0 (.alt 4 (.alt 9 (.take 10 .done) .done) .done) .done)))))))) (EI [] (EI [5] (AI rfl (gI q (fun q=>?_))))))))))))
   refine gI q (fun q=>?_)
   refine AI TV (OL (AI TV (OL (gI q (fun q=>?_)))))
   refine AI TV (OL (gI q (fun q=>?_)))
   refine OL ?_
   obtain ⟨q6_10,hq6_10,q⟩ := bE q
   refine OL (AI f214_in (cV (cQ C214 (g.1,((([] : LI) ++ (List.take (Int.toNat side) q8_9.2)) ++ (List.drop (Int.toNat (i64.wrap (side + (1:Int)))) q8_9.2))) q6_10 [] true C214_holds hq6_10 rfl rfl (R2 (AI (fun _=>rfl) (R2 (AI TV (AI TV (EI (.take 0 (.take 1 (.take 2 (.take 3 (.take 4 (.take 5 (.take 6 (.take 7 (.take 8 (.alt 9 .done .done)))))))))) (EI [] (EI [] (AI rfl (gI q (fun q=>?_))))))))))))))
   refine gI q (fun q=>?_)
   refine AI TV (OL (EI ((i64.wrap (v23 + (1:Int))),(List.set l4 (Int.toNat v23) (rd (0:Int) g.2 q6_10.1))) (AI q (E4 I5 (R5 (AI (R3 TV) (R5 TV)))))))
  cases sE q
  refine E4 [(0,some 1),(1,some 2),(2,some 3),(3,some 4)] (AI rfl (AI (R2 TV) (R4 TV)))
 refine AI (OL (OL ?_)) TV
 cases sE q
 refine AI rfl (E4 [(0,some 2),(1,some 3)] (AI rfl (AJ (R2 TV))))
theorem C169_holds : HP C169 169 := hH Tryz.f169 (by kernel_rfl) rfl (fun x y q=>C169_vc x.1 x.2.1 x.2.2 y q)
theorem f169_in : InP 169 := inP (by kernel_rfl)
def f245 (is : Bool) (yes:Int) (no:Int) : Option Int :=
 bif is then
 some yes
 else
 some no
def C245 : Con where
 X := Bool×Int×Int
 Y := Int
 e := 0
 args x := [.dat .bool x.1,.dat T2 x.2.1,.dat T2 x.2.2]
 hin x := []
 F x := f245 x.1 x.2.1 x.2.2
 ret y := [.dat T2 y]
 hout y := []
 nout := 0
theorem C245_vc (is : Bool) (yes:Int) (no:Int) (y:Int) (q : f245 is yes no = some y) : VC Tryz.f245 C245 (is,yes,no) y := by
 unfold f245 at q
 refine OL (OL (OL (cI q (fun q=>?_) (fun q=>?_))))
 ·cases sE q
  refine OL (AI rfl (E4 [] (R2 (AI TV TV))))
 cases sE q
 refine OL (AI rfl (E4 [] (R2 (AI TV TV))))
theorem C245_holds : HP C245 245 := hH Tryz.f245 (by kernel_rfl) rfl (fun x y q=>C245_vc x.1 x.2.1 x.2.2 y q)
theorem f245_in : InP 245 := inP (by kernel_rfl)
def f246 (a:Int) (b:Int) : Option Int :=
 bif (decide (a < b)) then
 some (-1:Int)
 else
 bif (decide (a > b)) then
 some (1:Int)
 else
 some (0:Int)
def C246 : Con where
 X := Int×Int
 Y := Int
 e := 0
 args x := [.dat T2 x.1,.dat T2 x.2]
 hin x := []
 F x := f246 x.1 x.2
 ret y := [.dat T2 y]
 hout y := []
 nout := 0
theorem C246_vc (a:Int) (b:Int) (y:Int) (q : f246 a b = some y) : VC Tryz.f246 C246 (a,b) y := by
 unfold f246 at q
 refine OL (OL (OL (cI q (fun q=>?_) (fun q=>?_))))
 ·cases sE q
  refine OL (AI rfl (E4 [] (R2 (AI TV TV))))
 refine OL (cI q (fun q=>?_) (fun q=>?_))
 ·cases sE q
  refine OL (AI rfl (E4 [] (R2 (AI TV TV))))
 cases sE q
 refine OL (AI rfl (E4 [] (R2 (AI TV TV))))
theorem C246_holds : HP C246 246 := hH Tryz.f246 (by kernel_rfl) rfl (fun x y q=>C246_vc x.1 x.2 y q)
theorem f246_in : InP 246 := inP (by kernel_rfl)
def f223_j1 (x_:Int) : Option Bool :=
 bif (decide (x_ > (-4294967296:Int))) then
 some (decide (x_ < (4294967296:Int)))
 else
 some false
def f223 (kind:Int) (x_:Int) : Option (Int×Int) :=
 bindF (f223_j1 x_) fun z1 =>
 bif (kind == (1:Int)) then
 bindF (f245 (decide (x_ > (0:Int))) (4294967296:Int) (0:Int)) fun r2 =>
 some (r2,(0:Int))
 else
 bif (kind == (2:Int)) then
 bindF (f245 (decide (x_ > (0:Int))) (4294967296:Int) (536870912:Int)) fun r3 =>
 some (r3,(0:Int))
 else
 bif (kind == (3:Int)) then
 bindF (f245 z1 (4294967296:Int) (0:Int)) fun r4 =>
 some (r4,(0:Int))
 else
 bif (kind == (4:Int)) then
 bindF (f246 x_ (0:Int)) fun r5 =>
 some ((i64.wrap (r5 * (4294967296:Int))),(0:Int))
 else
 bif (kind == (5:Int)) then
 bindF (f245 z1 (2147483648:Int) (0:Int)) fun r6 =>
 some (r6,(0:Int))
 else
 some ((0:Int),(1:Int))
def C223 : Con where
 X := Int×Int
 Y := Int×Int
 e := 0
 args x := [.dat T2 x.1,.dat T2 x.2]
 hin x := []
 F x := f223 x.1 x.2
 ret y := [.dat T2 y.1,.dat T2 y.2]
 hout y := []
 nout := 0
theorem C223_vc (kind:Int) (x_:Int) (y : Int×Int) (q : f223 kind x_ = some y) : VC Tryz.f223 C223 (kind,x_) y := by
 unfold f223 at q
 refine OL ?_
 obtain ⟨z1,hz1,q⟩ := bE q
 refine OQ ⟨[(0,⟨[(0,.dat T2 kind),(1,.dat T2 x_),(6,.dat .bool z1)],[],0⟩)],?_,?_⟩
 ·have q := hz1
  clear hz1
  unfold f223_j1 at q
  refine cI q (fun q=>?_) (fun q=>?_)
  ·refine gX (cT ?_)
   cases sE q
   refine E4 [] (R4 (AI TV TV))
  refine gM (cF ?_)
  cases sE q
  refine E4 [] (R4 (AI TV TV))
 refine AI (OL (OL (OL (cI q (fun q=>?_) (fun q=>?_))))) TV
 ·refine OL ?_
  obtain ⟨r2,hr2,q⟩ := bE q
  refine OL (AI f245_in (cV (cQ C245 ((decide (x_ > (0:Int))),(4294967296:Int),(0:Int)) r2 [] false C245_holds hr2 rfl rfl (R3 (K0 ?_)))))
  cases sE q
  refine AI rfl (E4 [] (R3 (AI TV TV)))
 refine OL (cI q (fun q=>?_) (fun q=>?_))
 ·refine OL ?_
  obtain ⟨r3,hr3,q⟩ := bE q
  refine OL (AI f245_in (cV (cQ C245 ((decide (x_ > (0:Int))),(4294967296:Int),(536870912:Int)) r3 [] false C245_holds hr3 rfl rfl (R3 (K0 ?_)))))
  cases sE q
  refine AI rfl (E4 [] (R3 (AI TV TV)))
 refine OL (cI q (fun q=>?_) (fun q=>?_))
 ·refine OL ?_
  obtain ⟨r4,hr4,q⟩ := bE q
  refine OL (AI f245_in (cV (cQ C245 (z1,(4294967296:Int),(0:Int)) r4 [] false C245_holds hr4 rfl rfl (R3 (K0 ?_)))))
  cases sE q
  refine AI rfl (E4 [] (R3 (AI TV TV)))
 refine OL (cI q (fun q=>?_) (fun q=>?_))
 ·refine OL ?_
  obtain ⟨r5,hr5,q⟩ := bE q
  refine OL (AI f246_in (cV (cQ C246 (x_,(0:Int)) r5 [] false C246_holds hr5 rfl rfl (R2 (K0 ?_)))))
  cases sE q
  refine AI rfl (E4 [] (R3 (AI TV TV)))
 refine OL (cI q (fun q=>?_) (fun q=>?_))
 ·refine OL ?_
  obtain ⟨r6,hr6,q⟩ := bE q
  refine OL (AI f245_in (cV (cQ C245 (z1,(2147483648:Int),(0:Int)) r6 [] false C245_holds hr6 rfl rfl (R3 (K0 ?_)))))
  cases sE q
  refine AI rfl (E4 [] (R3 (AI TV TV)))
 cases sE q
 refine OL (AI rfl (E4 [] (R3 (AI TV TV))))
theorem C223_holds : HP C223 223 := hH Tryz.f223 (by kernel_rfl) rfl (fun x y q=>C223_vc x.1 x.2 y q)
theorem f223_in : InP 223 := inP (by kernel_rfl)
def f171_j3 (kind:Int) (t : LI×LI) (g : LI×LI) : Option Bool :=
 bindF (f222 kind) fun r13 =>
 bif (!r13) then
 some true
 else
 bindF (f59 (t.1,t.2)) fun r14 =>
 bif (!r14) then
 some true
 else
 bindF (f59 (g.1,g.2)) fun r15 =>
 some (!r15)
def f171_j2 (kind:Int) (t : LI×LI) (g : LI×LI) : Option (Sum Unit Int) :=
 bindF (f171_j3 kind t g) fun z12 =>
 bif z12 then
 some (Sum.inr (1:Int))
 else
 bindF (f110 t.1 g.1) fun r16 =>
 bif (!r16) then
 some (Sum.inr (4:Int))
 else
 some (Sum.inl ())
def f171_l4 (kind:Int) (t : LI×LI) (g : LI×LI) (go : (Int×LI) → Option LI) (v41:Int) (l4 : LI) : Option LI :=
 bif (decide (v41 < (List.length t.2:Int))) then
 guardF (0 ≤ v41 ∧ v41 < (List.length t.2:Int)) <|
 bindF (f223 kind (rd (0:Int) t.2 v41)) fun q10_11 =>
 guardF (0 ≤ v41 ∧ v41 < (List.length g.2:Int)) <|
 bindF (f144 (rd (0:Int) g.2 v41) q10_11.1) fun q10_9 =>
 guardF (0 ≤ v41 ∧ v41 < (List.length l4:Int)) <|
 go ((i64.wrap (v41 + (1:Int))),(List.set l4 (Int.toNat v41) q10_9))
 else
 some l4
def f171 (kind:Int) (t : LI×LI) (g : LI×LI) : Option (Int×LI×LI) :=
 bindF (f171_j2 kind t g) fun z8 =>
 sumF z8 (fun z8a =>
 bindF (f61 (g.1,g.2)) fun r17 =>
 bindF (loopF (fun go x=>f171_l4 kind t g go x.1 x.2) fuelN ((0:Int),r17.2)) fun z19 =>
 some ((0:Int),r17.1,z19)) (fun z8b =>
 some (z8b,[],[]))
def C171 : Con where
 X := Int×(LI×LI)×(LI×LI)
 Y := Int×LI×LI
 e := 0
 args x := [.dat T2 x.1,.dat T3 x.2.1,.dat T3 x.2.2]
 hin x := []
 F x := f171 x.1 x.2.1 x.2.2
 ret y := [.raw true [(.osl 0),(.osl 1)],.dat T2 y.1]
 hout y := [(0,.arr 3 T2 y.2.1),(1,.arr 40 T2 y.2.2)]
 nout := 2
theorem C171_vc (kind:Int) (t : LI×LI) (g : LI×LI) (y : Int×LI×LI) (q : f171 kind t g = some y) : VC Tryz.f171 C171 (kind,t,g) y := by
 unfold f171 at q
 refine OL ?_
 obtain ⟨z8,hz8,q⟩ := bE q
 refine OQ ⟨Sum.elim (fun z8a=>[(0,⟨[(0,.dat T2 kind),(4,P0 0 0),(5,P0 1 0),(6,P0 2 0)],[(0,.cells [(.d T1 t.1),(.d T1 t.2)]),(1,.cells [(.d T1 g.1),(.d T1 g.2)]),(2,.cells [N0,N0])],3⟩)]) (fun z8b=>[(1,⟨[(6,P0 0 0),(7,.dat T2 z8b)],[(0,.cells [N0,N0])],1⟩)]) z8,?_,?_⟩
 ·have q := hz8
  clear hz8
  unfold f171_j2 at q
  obtain ⟨z12,hz12,q⟩ := bE q
  refine OQ ⟨[(0,⟨[(0,.dat T2 kind),(4,P0 0 0),(5,P0 1 0),(6,P0 2 0),(13,.dat .bool z12)],[(0,.cells [(.d T1 t.1),(.d T1 t.2)]),(1,.cells [(.d T1 g.1),(.d T1 g.2)]),(2,.cells [N0,N0])],3⟩)],?_,?_⟩
  ·have q := hz12
   clear hz12
   unfold f171_j3 at q
   obtain ⟨r13,hr13,q⟩ := bE q
   refine OL (AI f222_in (cV (cQ C222 kind r13 [] false C222_holds hr13 rfl rfl (AI rfl (K0 (cN q (fun q=>?_) (fun q=>?_)))))))
   ·refine gY ?_
    obtain ⟨r14,hr14,q⟩ := bE q
    refine OL (AI f59_in (cV (cQ C59 (t.1,t.2) r14 [] false C59_holds hr14 rfl rfl (R2 (K0 (gY (cF (cN q (fun q=>?_) (fun q=>?_)))))))))
    ·refine gY ?_
     obtain ⟨r15,hr15,q⟩ := bE q
     refine OL (AI f59_in (cV (cQ C59 (g.1,g.2) r15 [] false C59_holds hr15 rfl rfl (R2 (K0 (gY (cF ?_)))))))
     cases sE q
     refine E4 I3 (R3 (AI (R3 TV) (R3 TV)))
    refine gN (gN (cT ?_))
    cases sE q
    refine E4 I3 (R3 (AI (R3 TV) (R3 TV)))
   refine gN (gN (cT (gN (gN (gN (cT ?_))))))
   cases sE q
   refine E4 I3 (R3 (AI (R3 TV) (R3 TV)))
  refine AI (cI q (fun q=>?_) (fun q=>?_)) TV
  ·refine OL (OL ?_)
   cases sE q
   refine E4 [(0,some 2)] (R2 (AJ (AI rfl TV)))
  refine OL ?_
  obtain ⟨r16,hr16,q⟩ := bE q
  refine OL (AI f110_in (cV (cQ C110 (t.1,g.1) r16 [] false C110_holds hr16 rfl rfl (R2 (K0 (cI q (fun q=>?_) (fun q=>?_)))))))
  ·refine OL (OL ?_)
   cases sE q
   refine E4 [(0,some 2)] (R2 (AJ (AI rfl TV)))
  cases sE q
  refine E4 I3 (R2 (AI (R3 TV) (R3 TV)))
 rcases z8 with z8a | z8b
 ·dsimp only [sumF] at q
  refine AI (OL ?_) TV
  obtain ⟨r17,hr17,q⟩ := bE q
  refine OL (AI f61_in (cV (cQ C61 (g.1,g.2) r17 [] false C61_holds hr17 rfl rfl (R2 (K0 (OL (OL (OL ?_))))))))
  obtain ⟨z19,hz19,q⟩ := bE q
  refine lI (Int×LI) LI (fun x=>⟨[(0,.dat T2 kind),(5,P0 0 0),(6,P0 1 0),(8,P0 2 0),(39,.dat T1 t.2),(40,.dat T2 (List.length t.2:Int)),(41,.dat T2 x.1)],[(0,.cells [(.d T1 g.1),(.d T1 g.2)]),(1,.cells [N0,N0]),(2,.cells [(.osl 3),(.osl 4)]),(3,.arr 3 T2 r17.1),(4,.arr 40 T2 x.2)],5⟩) (fun z=>[(3,⟨[(6,P0 0 0),(8,P0 1 0)],[(0,.cells [N0,N0]),(1,.cells [(.osl 2),(.osl 3)]),(2,.arr 3 T2 r17.1),(3,.arr 40 T2 z)],4⟩)]) (loopF (fun go x=>f171_l4 kind t g go x.1 x.2)) fuelN ((0:Int),r17.2) z19 (AI hz19 (AI (E4 [(0,some 1),(1,some 2),(2,some 5),(3,some 3),(4,some 4)] (R5 (AI (R3 TV) (R5 TV)))) (AI (fun _ _ h=>lZ h) (AI (fun m=>curI (fun v41=>fun l4 z q=>?_)) ?_))))
  ·have q : f171_l4 kind t g (loopF (fun go x=>f171_l4 kind t g go x.1 x.2) m) v41 l4 = some z := q
   unfold f171_l4 at q
   refine OL (OL (cI q (fun q=>?_) (fun q=>?_)))
   ·refine OL (OL (gI q (fun q=>?_)))
    refine OL ?_
    obtain ⟨q10_11,hq10_11,q⟩ := bE q
    refine OL (AI f223_in (cV (cQ C223 (kind,(rd (0:Int) t.2 v41)) q10_11 [] false C223_holds hq10_11 rfl rfl (R2 (K0 (EI (.take 0 (.take 1 (.take 2 (.take 3 (.take 4 (.take 5 (.take 6 (.take 7 (.take 8 (.alt 9 (.take 10 (.alt 11 .done .done)) .done)))))))))) (EI [] (EI [] (AI rfl (gI q (fun q=>?_)))))))))))
    refine AI TV ?_
    obtain ⟨q10_9,hq10_9,q⟩ := bE q
    refine OL (AI f144_in (cV (cQ C144 ((rd (0:Int) g.2 v41),q10_11.1) q10_9 [] false C144_holds hq10_9 rfl rfl (R2 (K0 (gI q (fun q=>?_)))))))
    refine AI TV (OL (EI ((i64.wrap (v41 + (1:Int))),(List.set l4 (Int.toNat v41) q10_9)) (AI q (E4 I5 (R5 (AI (R3 TV) (R5 TV)))))))
   cases sE q
   refine E4 [(0,some 1),(1,some 2),(2,some 3),(3,some 4)] (AI rfl (AI (R2 TV) (R4 TV)))
  refine AI (OL (OL ?_)) TV
  cases sE q
  refine AI rfl (E4 [(0,some 2),(1,some 3)] (R2 (AJ (R2 TV))))
 dsimp only [sumF] at q
 refine AI ?_ TV
 cases sE q
 refine AI rfl (E4 [(0,none),(1,none)] (R2 (AJ (R2 TV))))
theorem C171_holds : HP C171 171 := hH Tryz.f171 (by kernel_rfl) rfl (fun x y q=>C171_vc x.1 x.2.1 x.2.2 y q)
theorem f171_in : InP 171 := inP (by kernel_rfl)
end Go.Proofs
