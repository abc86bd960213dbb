import Derived.Test.YtoicgngppmpapaaGreatLossSaysS0
set_option linter.unusedVariables false
set_option maxRecDepth 100000
set_option maxHeartbeats 8000000
namespace Go.Proofs
open Go.AM
open IntKind (i64 u64 i32 u32 i16 u16 i8 u8)
def f199 (a : LI×LI) (b : LI×LI) : Option (Int×LI×LI) :=
 none
def C199 : Con where
 X := (LI×LI)×(LI×LI)
 Y := Int×LI×LI
 e := 0
 args x := [.dat T3 x.1,.dat T3 x.2]
 hin x := []
 F x := f199 x.1 x.2
 ret y := [.raw true [(.osl 0),(.osl 1)],.dat T2 y.1]
 hout y := [(0,.arr 3 T2 y.2.1),(1,.arr 40 T2 y.2.2)]
 nout := 2
theorem C199_vc (a : LI×LI) (b : LI×LI) (y : Int×LI×LI) (q : f199 a b = some y) : VC Tryz.f199 C199 (a,b) y := by
 unfold f199 at q
 exact nomatch q
theorem C199_holds : HP C199 199 := hH Tryz.f199 (by kernel_rfl) rfl (fun x y q=>C199_vc x.1 x.2 y q)
theorem f199_in : InP 199 := inP (by kernel_rfl)
def f200 (a : LI×LI) (k : LI×LI) (step:Int) : Option (Int×LI×LI) :=
 none
def C200 : Con where
 X := (LI×LI)×(LI×LI)×Int
 Y := Int×LI×LI
 e := 0
 args x := [.dat T3 x.1,.dat T3 x.2.1,.dat T2 x.2.2]
 hin x := []
 F x := f200 x.1 x.2.1 x.2.2
 ret y := [.raw true [(.osl 0),(.osl 1)],.dat T2 y.1]
 hout y := [(0,.arr 3 T2 y.2.1),(1,.arr 40 T2 y.2.2)]
 nout := 2
theorem C200_vc (a : LI×LI) (k : LI×LI) (step:Int) (y : Int×LI×LI) (q : f200 a k step = some y) : VC Tryz.f200 C200 (a,k,step) y := by
 unfold f200 at q
 exact nomatch q
theorem C200_holds : HP C200 200 := hH Tryz.f200 (by kernel_rfl) rfl (fun x y q=>C200_vc x.1 x.2.1 x.2.2 y q)
theorem f200_in : InP 200 := inP (by kernel_rfl)
def f151 (op:Int) (a : LI×LI) (b : LI×LI) (k:Int) : Option (Int×LI×LI) :=
 bif (op == (2:Int)) then
 bindF (f113 (a.1,a.2) (b.1,b.2)) fun r1 =>
 some (r1.1,r1.2.1,r1.2.2)
 else
 bif (op == (3:Int)) then
 bindF (f198 (a.1,a.2) (b.1,b.2)) fun r2 =>
 some (r2.1,r2.2.1,r2.2.2)
 else
 bif (op == (4:Int)) then
 bindF (f164 (a.1,a.2) (b.1,b.2)) fun r3 =>
 some (r3.1,r3.2.1,r3.2.2)
 else
 bif (op == (6:Int)) then
 bindF (f199 (a.1,a.2) (b.1,b.2)) fun r4 =>
 some (r4.1,r4.2.1,r4.2.2)
 else
 bindF (f200 (a.1,a.2) (b.1,b.2) k) fun r5 =>
 some (r5.1,r5.2.1,r5.2.2)
def C151 : Con where
 X := Int×(LI×LI)×(LI×LI)×Int
 Y := Int×LI×LI
 e := 0
 args x := [.dat T2 x.1,.dat T3 x.2.1,.dat T3 x.2.2.1,.dat T2 x.2.2.2]
 hin x := []
 F x := f151 x.1 x.2.1 x.2.2.1 x.2.2.2
 ret y := [.raw true [(.osl 0),(.osl 1)],.dat T2 y.1]
 hout y := [(0,.arr 3 T2 y.2.1),(1,.arr 40 T2 y.2.2)]
 nout := 2
theorem C151_vc (op:Int) (a : LI×LI) (b : LI×LI) (k:Int) (y : Int×LI×LI) (q : f151 op a b k = some y) : VC Tryz.f151 C151 (op,a,b,k) y := by
 unfold f151 at q
 refine OL (OL (OL (OL (cI q (fun q=>?_) (fun q=>?_)))))
 ·refine OL ?_
  obtain ⟨r1,hr1,q⟩ := bE q
  refine OL (AI f113_in (cV (cQ C113 ((a.1,a.2),(b.1,b.2)) r1 [] false C113_holds hr1 rfl rfl (R4 (K0 (OL ?_))))))
  cases sE q
  refine AI rfl (E4 [(0,some 3),(1,some 4)] (R2 (AJ (R2 TV))))
 refine OL (cI q (fun q=>?_) (fun q=>?_))
 ·refine OL ?_
  obtain ⟨r2,hr2,q⟩ := bE q
  refine OL (AI f198_in (cV (cQ C198 ((a.1,a.2),(b.1,b.2)) r2 [] false C198_holds hr2 rfl rfl (R4 (K0 (OL ?_))))))
  cases sE q
  refine AI rfl (E4 [(0,some 3),(1,some 4)] (R2 (AJ (R2 TV))))
 refine OL (cI q (fun q=>?_) (fun q=>?_))
 ·refine OL ?_
  obtain ⟨r3,hr3,q⟩ := bE q
  refine OL (AI f164_in (cV (cQ C164 ((a.1,a.2),(b.1,b.2)) r3 [] false C164_holds hr3 rfl rfl (R4 (K0 (OL ?_))))))
  cases sE q
  refine AI rfl (E4 [(0,some 3),(1,some 4)] (R2 (AJ (R2 TV))))
 refine OL (cI q (fun q=>?_) (fun q=>?_))
 ·refine OL ?_
  obtain ⟨r4,hr4,q⟩ := bE q
  refine OL (AI f199_in (cV (cQ C199 ((a.1,a.2),(b.1,b.2)) r4 [] false C199_holds hr4 rfl rfl (R4 (K0 (OL ?_))))))
  cases sE q
  refine AI rfl (E4 [(0,some 3),(1,some 4)] (R2 (AJ (R2 TV))))
 refine OL ?_
 obtain ⟨r5,hr5,q⟩ := bE q
 refine OL (AI f200_in (cV (cQ C200 ((a.1,a.2),(b.1,b.2),k) r5 [] false C200_holds hr5 rfl rfl (R5 (K0 (OL ?_))))))
 cases sE q
 refine AI rfl (E4 [(0,some 3),(1,some 4)] (R2 (AJ (R2 TV))))
theorem C151_holds : HP C151 151 := hH Tryz.f151 (by kernel_rfl) rfl (fun x y q=>C151_vc x.1 x.2.1 x.2.2.1 x.2.2.2 y q)
theorem f151_in : InP 151 := inP (by kernel_rfl)
def f166_l1 (k:Int) (r1 : LI×LI) (go : (Int×LI) → Option LI) (v18:Int) (l2 : LI) : Option LI :=
 bif (decide (v18 < (List.length r1.2:Int))) then
 guardF (0 ≤ v18 ∧ v18 < (List.length l2:Int)) <|
 bindF (f144 (rd (0:Int) l2 v18) k) fun q7_5 =>
 guardF (0 ≤ v18 ∧ v18 < (List.length l2:Int)) <|
 go ((i64.wrap (v18 + (1:Int))),(List.set l2 (Int.toNat v18) q7_5))
 else
 some l2
def f166 (a : LI×LI) (k:Int) : Option (Int×LI×LI) :=
 bindF (f59 (a.1,a.2)) fun q7_7 =>
 bif (!q7_7) then
 some ((1:Int),[],[])
 else
 bindF (f61 (a.1,a.2)) fun r1 =>
 bindF (loopF (fun go x=>f166_l1 k r1 go x.1 x.2) fuelN ((0:Int),r1.2)) fun z2 =>
 some ((0:Int),r1.1,z2)
def C166 : Con where
 X := (LI×LI)×Int
 Y := Int×LI×LI
 e := 0
 args x := [.dat T3 x.1,.dat T2 x.2]
 hin x := []
 F x := f166 x.1 x.2
 ret y := [.raw true [(.osl 0),(.osl 1)],.dat T2 y.1]
 hout y := [(0,.arr 3 T2 y.2.1),(1,.arr 40 T2 y.2.2)]
 nout := 2
theorem C166_vc (a : LI×LI) (k:Int) (y : Int×LI×LI) (q : f166 a k = some y) : VC Tryz.f166 C166 (a,k) y := by
 unfold f166 at q
 refine OL (OL (OL ?_))
 obtain ⟨q7_7,hq7_7,q⟩ := bE q
 refine OL (AI f59_in (cV (cQ C59 (a.1,a.2) q7_7 [] false C59_holds hq7_7 rfl rfl (R2 (K0 (cI q (fun q=>?_) (fun q=>?_)))))))
 ·refine OL (OL ?_)
  cases sE q
  refine AI rfl (E4 [(0,none),(1,none)] (R2 (AJ (R2 TV))))
 refine OL ?_
 obtain ⟨r1,hr1,q⟩ := bE q
 refine OL (AI f61_in (cV (cQ C61 (a.1,a.2) r1 [] false C61_holds hr1 rfl rfl (R2 (K0 (OL (OL (OL ?_))))))))
 obtain ⟨z2,hz2,q⟩ := bE q
 refine lI (Int×LI) LI (fun x=>⟨[(1,.dat T2 k),(4,P0 0 0),(6,P0 1 0),(16,O0 2),(17,.dat T2 (List.length r1.2:Int)),(18,.dat T2 x.1)],[(0,.cells [N0,N0]),(1,.cells [(.osl 3),(.osl 2)]),(2,.arr 40 T2 x.2),(3,.arr 3 T2 r1.1)],4⟩) (fun z=>[(2,⟨[(4,P0 0 0),(6,P0 1 0)],[(0,.cells [N0,N0]),(1,.cells [(.osl 2),(.osl 3)]),(2,.arr 3 T2 r1.1),(3,.arr 40 T2 z)],4⟩)]) (loopF (fun go x=>f166_l1 k r1 go x.1 x.2)) fuelN ((0:Int),r1.2) z2 (AI hz2 (AI (E4 [(0,some 1),(1,some 4),(2,some 3),(3,some 2)] (R4 (AI (R3 TV) (R4 TV)))) (AI (fun _ _ h=>lZ h) (AI (fun m=>curI (fun v18=>fun l2 z q=>?_)) ?_))))
 ·have q : f166_l1 k r1 (loopF (fun go x=>f166_l1 k r1 go x.1 x.2) m) v18 l2 = some z := q
  unfold f166_l1 at q
  refine OL (OL (cI q (fun q=>?_) (fun q=>?_)))
  ·refine OL (OL (gI q (fun q=>?_)))
   refine EI (.take 0 (.take 1 (.take 2 (.take 3 (.take 4 (.alt 5 (.take 6 (.alt 7 .done .done)) .done)))))) (EI [] (EI [] (AI rfl (AI TV ?_))))
   obtain ⟨q7_5,hq7_5,q⟩ := bE q
   refine OL (AI f144_in (cV (cQ C144 ((rd (0:Int) l2 v18),k) q7_5 [] false C144_holds hq7_5 rfl rfl (R2 (K0 (gI q (fun q=>?_)))))))
   refine AI TV (OL (EI ((i64.wrap (v18 + (1:Int))),(List.set l2 (Int.toNat v18) q7_5)) (AI q (E4 I4 (R4 (AI (R3 TV) (R4 TV)))))))
  cases sE q
  refine E4 [(0,some 0),(1,some 1),(2,some 3),(3,some 2)] (AI rfl (AI (R2 TV) (R4 TV)))
 refine AI (OL (OL ?_)) TV
 cases sE q
 refine AI rfl (E4 [(0,some 2),(1,some 3)] (R2 (AJ (R2 TV))))
theorem C166_holds : HP C166 166 := hH Tryz.f166 (by kernel_rfl) rfl (fun x y q=>C166_vc x.1 x.2 y q)
theorem f166_in : InP 166 := inP (by kernel_rfl)
def f201 (a : LI×LI) (side:Int) : Option (Int×LI×LI) :=
 none
def C201 : Con where
 X := (LI×LI)×Int
 Y := Int×LI×LI
 e := 0
 args x := [.dat T3 x.1,.dat T2 x.2]
 hin x := []
 F x := f201 x.1 x.2
 ret y := [.raw true [(.osl 0),(.osl 1)],.dat T2 y.1]
 hout y := [(0,.arr 3 T2 y.2.1),(1,.arr 40 T2 y.2.2)]
 nout := 2
theorem C201_vc (a : LI×LI) (side:Int) (y : Int×LI×LI) (q : f201 a side = some y) : VC Tryz.f201 C201 (a,side) y := by
 unfold f201 at q
 exact nomatch q
theorem C201_holds : HP C201 201 := hH Tryz.f201 (by kernel_rfl) rfl (fun x y q=>C201_vc x.1 x.2 y q)
theorem f201_in : InP 201 := inP (by kernel_rfl)
def f236_l1 (v : LI) (go : (Int×Int×Int) → Option (Int×Int)) (v9:Int) (c1_0:Int) (c1_1:Int) : Option (Int×Int) :=
 bif (decide (v9 < (List.length v:Int))) then
 guardF (0 ≤ v9 ∧ v9 < (List.length v:Int)) <|
 bindF (f84 (rd (0:Int) v v9)) fun q5_2 =>
 bindF (f42 (c1_0,c1_1) (q5_2.1,q5_2.2)) fun q5_3 =>
 go ((i64.wrap (v9 + (1:Int))),q5_3.1,q5_3.2)
 else
 some (c1_0,c1_1)
def f236 (v : LI) : Option (Int×Int) :=
 bindF (loopF (fun go x=>f236_l1 v go x.1 x.2.1 x.2.2) fuelN ((0:Int),(0:Int),(0:Int))) fun z1 =>
 some (z1.1,z1.2)
def C236 : Con where
 X := LI
 Y := Int×Int
 e := 0
 args x := [.dat T1 x]
 hin x := []
 F x := f236 x
 ret y := [.raw true [(.d T2 y.1),(.d T4 y.2)]]
 hout y := []
 nout := 0
theorem C236_vc (v : LI) (y : Int×Int) (q : f236 v = some y) : VC Tryz.f236 C236 v y := by
 unfold f236 at q
 refine OL (OL (OL (OL (OL ?_))))
 obtain ⟨z1,hz1,q⟩ := bE q
 refine lI (Int×Int×Int) (Int×Int) (fun x=>⟨[(2,P0 0 0),(3,P0 1 0),(7,.dat T1 v),(8,.dat T2 (List.length v:Int)),(9,.dat T2 x.1)],[(0,.cells [(.d T2 (0:Int)),(.d T4 (0:Int))]),(1,.cells [(.d T2 x.2.1),(.d T4 x.2.2)])],2⟩) (fun z=>[(2,⟨[(2,P0 0 0),(3,P0 1 0)],[(0,.cells [(.d T2 (0:Int)),(.d T4 (0:Int))]),(1,.cells [(.d T2 z.1),(.d T4 z.2)])],2⟩)]) (loopF (fun go x=>f236_l1 v go x.1 x.2.1 x.2.2)) fuelN ((0:Int),(0:Int),(0:Int)) z1 (AI hz1 (AI (E4 I2 (R4 (AI (R2 TV) (R2 TV)))) (AI (fun _ _ h=>lZ h) (AI (fun m=>curI (fun v9=>curI (fun c1_0=>fun c1_1 z q=>?_))) ?_))))
 ·have q : f236_l1 v (loopF (fun go x=>f236_l1 v go x.1 x.2.1 x.2.2) m) v9 c1_0 c1_1 = some z := q
  unfold f236_l1 at q
  refine OL (OL (cI q (fun q=>?_) (fun q=>?_)))
  ·refine OL (OL (gI q (fun q=>?_)))
   refine EI (.take 0 (.take 1 (.alt 2 (.alt 3 (.alt 4 .done .done) .done) .done))) (EI [(4,[1])] (EI [] (AI rfl (AI TV ?_))))
   obtain ⟨q5_2,hq5_2,q⟩ := bE q
   refine OL (AI f84_in (cV (cQ C84 (rd (0:Int) v v9) q5_2 [] false C84_holds hq5_2 rfl rfl (AI rfl (K0 (AI TV ?_))))))
   obtain ⟨q5_3,hq5_3,q⟩ := bE q
   refine OL (AI f42_in (cV (cQ C42 ((c1_0,c1_1),(q5_2.1,q5_2.2)) q5_3 [] false C42_holds hq5_3 rfl rfl (R4 (K0 (AI TV (OL (EI ((i64.wrap (v9 + (1:Int))),q5_3.1,q5_3.2) (AI q (E4 I2 (R4 (AI (R2 TV) (R2 TV)))))))))))))
  cases sE q
  refine E4 I2 (AI rfl (AI (R2 TV) (R2 TV)))
 refine AI (OL (OL ?_)) TV
 cases sE q
 refine AI rfl (E4 [] (AI rfl (AJ TV)))
theorem C236_holds : HP C236 236 := hH Tryz.f236 (by kernel_rfl) rfl (fun x y q=>C236_vc x y q)
theorem f236_in : InP 236 := inP (by kernel_rfl)
def f203 (a : LI×LI) : Option (Int×Int) :=
 bindF (f59 (a.1,a.2)) fun r1 =>
 bif (!r1) then
 some ((0:Int),(1:Int))
 else
 bindF (f236 a.2) fun r2 =>
 bindF (f220 (r2.1,r2.2)) fun r3 =>
 some (r3,(0:Int))
def C203 : Con where
 X := LI×LI
 Y := Int×Int
 e := 0
 args x := [.dat T3 x]
 hin x := []
 F x := f203 x
 ret y := [.dat T2 y.1,.dat T2 y.2]
 hout y := []
 nout := 0
theorem C203_vc (a : LI×LI) (y : Int×Int) (q : f203 a = some y) : VC Tryz.f203 C203 a y := by
 unfold f203 at q
 refine OL (OL (OL ?_))
 obtain ⟨r1,hr1,q⟩ := bE q
 refine OL (AI f59_in (cV (cQ C59 (a.1,a.2) r1 [] false C59_holds hr1 rfl rfl (R2 (K0 (cI q (fun q=>?_) (fun q=>?_)))))))
 ·cases sE q
  refine OL (AI rfl (E4 [] (R3 (AI TV TV))))
 refine OL ?_
 obtain ⟨r2,hr2,q⟩ := bE q
 refine OL (AI f236_in (cV (cQ C236 a.2 r2 [] false C236_holds hr2 rfl rfl (AI rfl (K0 ?_)))))
 obtain ⟨r3,hr3,q⟩ := bE q
 refine OL (AI f220_in (cV (cQ C220 (r2.1,r2.2) r3 [] false C220_holds hr3 rfl rfl (R2 (K0 ?_)))))
 cases sE q
 refine AI rfl (E4 [] (R3 (AI TV TV)))
theorem C203_holds : HP C203 203 := hH Tryz.f203 (by kernel_rfl) rfl (fun x y q=>C203_vc x y q)
theorem f203_in : InP 203 := inP (by kernel_rfl)
def f202 (x_:Int) (e:Int) : Option (Int×LI×LI) :=
 bif (e != (0:Int)) then
 some (e,[],[])
 else
 bindF (f68 ([]) x_) fun r1 =>
 some (r1.1,r1.2.1,r1.2.2)
def C202 : Con where
 X := Int×Int
 Y := Int×LI×LI
 e := 0
 args x := [.dat T2 x.1,.dat T2 x.2]
 hin x := []
 F x := f202 x.1 x.2
 ret y := [.raw true [(.osl 0),(.osl 1)],.dat T2 y.1]
 hout y := [(0,.arr 3 T2 y.2.1),(1,.arr 40 T2 y.2.2)]
 nout := 2
theorem C202_vc (x_:Int) (e:Int) (y : Int×LI×LI) (q : f202 x_ e = some y) : VC Tryz.f202 C202 (x_,e) y := by
 unfold f202 at q
 refine OL (OL (OL (cI q (fun q=>?_) (fun q=>?_))))
 ·refine OL (OL ?_)
  cases sE q
  refine AI rfl (E4 [(0,none),(1,none)] (R2 (AJ (R2 TV))))
 refine OL ?_
 obtain ⟨r1,hr1,q⟩ := bE q
 refine OL (AI f68_in (cV (cQ C68 ([],x_) r1 [] false C68_holds hr1 rfl rfl (R2 (K0 (OL ?_))))))
 cases sE q
 refine AI rfl (E4 [(0,some 1),(1,some 2)] (R2 (AJ (R2 TV))))
theorem C202_holds : HP C202 202 := hH Tryz.f202 (by kernel_rfl) rfl (fun x y q=>C202_vc x.1 x.2 y q)
theorem f202_in : InP 202 := inP (by kernel_rfl)
def f216_j1 (a : Int×Int) (b : Int×Int) : Option Bool :=
 bif (decide (a.1 < b.1)) then
 some true
 else
 bif (a.1 == b.1) then
 some (decide (a.2 < b.2))
 else
 some false
def f216 (a : Int×Int) (b : Int×Int) : Option Int :=
 bindF (f216_j1 a b) fun z1 =>
 bif z1 then
 some (-1:Int)
 else
 bif (a.1 == b.1 && a.2 == b.2) then
 some (0:Int)
 else
 some (1:Int)
def C216 : Con where
 X := (Int×Int)×(Int×Int)
 Y := Int
 e := 0
 args x := [.dat T5 x.1,.dat T5 x.2]
 hin x := []
 F x := f216 x.1 x.2
 ret y := [.dat T2 y]
 hout y := []
 nout := 0
theorem C216_vc (a : Int×Int) (b : Int×Int) (y:Int) (q : f216 a b = some y) : VC Tryz.f216 C216 (a,b) y := by
 unfold f216 at q
 refine OL (OL ?_)
 obtain ⟨z1,hz1,q⟩ := bE q
 refine OQ ⟨[(0,⟨[(2,P0 0 0),(3,P0 1 0),(5,.dat .bool z1)],[(0,.cells [(.d T2 a.1),(.d T4 a.2)]),(1,.cells [(.d T2 b.1),(.d T4 b.2)])],2⟩)],?_,?_⟩
 ·have q := hz1
  clear hz1
  unfold f216_j1 at q
  refine cN q (fun q=>?_) (fun q=>?_)
  ·refine gY (gY (gY (gY (gY (cI q (fun q=>?_) (fun q=>?_))))))
   ·refine gX (gX (gX (gX (gY (cT (cF ?_))))))
    cases sE q
    refine E4 I2 (R2 (AI (R2 TV) (R2 TV)))
   refine gM (gM (gM (gM (gY (cF (cF ?_))))))
   cases sE q
   refine E4 I2 (R2 (AI (R2 TV) (R2 TV)))
  refine gN (gN (gN (gN (gN (gN (cT ?_))))))
  cases sE q
  refine E4 I2 (R2 (AI (R2 TV) (R2 TV)))
 refine AI (cI q (fun q=>?_) (fun q=>?_)) TV
 ·cases sE q
  refine OL (AI rfl (E4 [] (R2 (AI TV TV))))
 refine OL (AI ⟨by kernel_rfl,by kernel_rfl,by decide,by decide⟩ ?_)
 refine cI q (fun q=>?_) (fun q=>?_)
 ·cases sE q
  refine OL (AI rfl (E4 [] (R2 (AI TV TV))))
 cases sE q
 refine OL (AI rfl (E4 [] (R2 (AI TV TV))))
theorem C216_holds : HP C216 216 := hH Tryz.f216 (by kernel_rfl) rfl (fun x y q=>C216_vc x.1 x.2 y q)
theorem f216_in : InP 216 := inP (by kernel_rfl)
def f255_s1 : ByteArray := ⟨⟨[0,1,2,2,3,3,3,3,4,4,4,4,4,4,4,4,5,5,5,5,5,5,5,5,5,5,5,5,5,5,5,5,6,6,6,6,6,6,6,6,6,6,6,6,6,6,6,6,6,6,6,6,6,6,6,6,6,6,6,6,6,6,6,6,7,7,7,7,7,7,7,7,7,7,7,7,7,7,7,7,7,7,7,7,7,7,7,7,7,7,7,7,7,7,7,7,7,7,7,7,7,7,7,7,7,7,7,7,7,7,7,7,7,7,7,7,7,7,7,7,7,7,7,7,7,7,7,7,8,8,8,8,8,8,8,8,8,8,8,8,8,8,8,8,8,8,8,8,8,8,8,8,8,8,8,8,8,8,8,8,8,8,8,8,8,8,8,8,8,8,8,8,8,8,8,8,8,8,8,8,8,8,8,8,8,8,8,8,8,8,8,8,8,8,8,8,8,8,8,8,8,8,8,8,8,8,8,8,8,8,8,8,8,8,8,8,8,8,8,8,8,8,8,8,8,8,8,8,8,8,8,8,8,8,8,8,8,8,8,8,8,8,8,8,8,8,8,8,8,8,8,8,8,8,8,8]⟩⟩
def f255_j1 (x_:Int) : Option (Int×Int) :=
 bif (decide (x_ ≥ (4294967296:Int))) then
 some ((Int.fdiv x_ (2 ^ min (Int.toNat (32:Int)) u64.bits)),(32:Int))
 else
 some (x_,(0:Int))
def f255_j2 (z1 : Int×Int) : Option (Int×Int) :=
 bif (decide (z1.1 ≥ (65536:Int))) then
 some ((Int.fdiv z1.1 (2 ^ min (Int.toNat (16:Int)) u64.bits)),(i64.wrap (z1.2 + (16:Int))))
 else
 some (z1.1,z1.2)
def f255_j3 (z2 : Int×Int) : Option (Int×Int) :=
 bif (decide (z2.1 ≥ (256:Int))) then
 some ((Int.fdiv z2.1 (2 ^ min (Int.toNat (8:Int)) u64.bits)),(i64.wrap (z2.2 + (8:Int))))
 else
 some (z2.1,z2.2)
def f255 (x_:Int) : Option Int :=
 bindF (f255_j1 x_) fun z1 =>
 bindF (f255_j2 z1) fun z2 =>
 bindF (f255_j3 z2) fun z3 =>
 guardF (0 ≤ (u8.wrap z3.1) ∧ (u8.wrap z3.1) < (ByteArray.size f255_s1:Int)) <|
 some (i64.wrap (z3.2 + (i64.wrap (bt f255_s1 (u8.wrap z3.1)))))
def C255 : Con where
 X := Int
 Y := Int
 e := 0
 args x := [.dat T4 x]
 hin x := []
 F x := f255 x
 ret y := [.dat T2 y]
 hout y := []
 nout := 0
theorem C255_vc (x_:Int) (y:Int) (q : f255 x_ = some y) : VC Tryz.f255 C255 x_ y := by
 unfold f255 at q
 refine OL ?_
 obtain ⟨z1,hz1,q⟩ := bE q
 refine OQ ⟨[(0,⟨[(0,.dat T4 z1.1),(2,.dat T2 z1.2)],[],0⟩)],?_,?_⟩
 ·have q := hz1
  clear hz1
  unfold f255_j1 at q
  refine OL (cI q (fun q=>?_) (fun q=>?_))
  ·refine OL (AI (by decide) ?_)
   cases sE q
   refine E4 [] (R3 (AI TV TV))
  cases sE q
  refine E4 [] (R3 (AI TV TV))
 refine AI ?_ TV
 obtain ⟨z2,hz2,q⟩ := bE q
 refine OQ ⟨[(0,⟨[(0,.dat T4 z2.1),(2,.dat T2 z2.2)],[],0⟩)],?_,?_⟩
 ·have q := hz2
  clear hz2
  unfold f255_j2 at q
  refine OL (cI q (fun q=>?_) (fun q=>?_))
  ·refine OL (AI (by decide) ?_)
   cases sE q
   refine E4 [] (R3 (AI TV TV))
  cases sE q
  refine E4 [] (R3 (AI TV TV))
 refine AI ?_ TV
 obtain ⟨z3,hz3,q⟩ := bE q
 refine OQ ⟨[(0,⟨[(0,.dat T4 z3.1),(2,.dat T2 z3.2)],[],0⟩)],?_,?_⟩
 ·have q := hz3
  clear hz3
  unfold f255_j3 at q
  refine OL (cI q (fun q=>?_) (fun q=>?_))
  ·refine OL (AI (by decide) ?_)
   cases sE q
   refine E4 [] (R3 (AI TV TV))
  cases sE q
  refine E4 [] (R3 (AI TV TV))
 refine AI (OL (gI q (fun q=>?_))) TV
 cases sE q
 refine AI rfl (E4 [] (R2 (AI TV TV)))
theorem C255_holds : HP C255 255 := hH Tryz.f255 (by kernel_rfl) rfl (fun x y q=>C255_vc x y q)
theorem f255_in : InP 255 := inP (by kernel_rfl)
def f243 (x_:Int) : Option Int :=
 bindF (f255 x_) fun r1 =>
 some (i64.wrap ((64:Int) - r1))
def C243 : Con where
 X := Int
 Y := Int
 e := 0
 args x := [.dat T4 x]
 hin x := []
 F x := f243 x
 ret y := [.dat T2 y]
 hout y := []
 nout := 0
theorem C243_vc (x_:Int) (y:Int) (q : f243 x_ = some y) : VC Tryz.f243 C243 x_ y := by
 unfold f243 at q
 refine OL (OL ?_)
 obtain ⟨r1,hr1,q⟩ := bE q
 refine OL (AI f255_in (cV (cQ C255 x_ r1 [] false C255_holds hr1 rfl rfl (AI rfl (K0 ?_)))))
 cases sE q
 refine AI rfl (E4 [] (R2 (AI TV TV)))
theorem C243_holds : HP C243 243 := hH Tryz.f243 (by kernel_rfl) rfl (fun x y q=>C243_vc x y q)
theorem f243_in : InP 243 := inP (by kernel_rfl)
def f219_j4 (lo:Int) (y_:Int) (q6_7:Int) (q1:Int) (rhat:Int) : Option (Sum Unit Unit) :=
 bif (decide (q1 ≥ (4294967296:Int))) then
 some (Sum.inl ())
 else
 bif (decide ((u64.wrap (q1 * (bitsOf IntKind.u64 (fun p q=>p &&& q) (u64.wrap (y_ * 2 ^ min (Int.toNat (u64.wrap q6_7)) u64.bits)) (4294967295:Int)))) > (u64.wrap ((u64.wrap ((4294967296:Int) * rhat)) + (Int.fdiv (u64.wrap (lo * 2 ^ min (Int.toNat (u64.wrap q6_7)) u64.bits)) (2 ^ min (Int.toNat (32:Int)) u64.bits)))))) then
 some (Sum.inl ())
 else
 some (Sum.inr ())
def f219_l3 (lo:Int) (y_:Int) (q6_7:Int) (go : (Int×Int) → Option Int) (q1:Int) (rhat:Int) : Option Int :=
 bindF (f219_j4 lo y_ q6_7 q1 rhat) fun z4 =>
 sumF z4 (fun z4a =>
 bif (decide ((u64.wrap (rhat + (Int.fdiv (u64.wrap (y_ * 2 ^ min (Int.toNat (u64.wrap q6_7)) u64.bits)) (2 ^ min (Int.toNat (32:Int)) u64.bits)))) ≥ (4294967296:Int))) then
 some (u64.wrap (q1 - (1:Int)))
 else
 go ((u64.wrap (q1 - (1:Int))),(u64.wrap (rhat + (Int.fdiv (u64.wrap (y_ * 2 ^ min (Int.toNat (u64.wrap q6_7)) u64.bits)) (2 ^ min (Int.toNat (32:Int)) u64.bits)))))) (fun z4b =>
 some q1)
def f219_j8 (lo:Int) (y_:Int) (q6_7:Int) (rhat:Int) (q0:Int) : Option (Sum Unit Unit) :=
 bif (decide (q0 ≥ (4294967296:Int))) then
 some (Sum.inl ())
 else
 bif (decide ((u64.wrap (q0 * (bitsOf IntKind.u64 (fun p q=>p &&& q) (u64.wrap (y_ * 2 ^ min (Int.toNat (u64.wrap q6_7)) u64.bits)) (4294967295:Int)))) > (u64.wrap ((u64.wrap ((4294967296:Int) * rhat)) + (bitsOf IntKind.u64 (fun p q=>p &&& q) (u64.wrap (lo * 2 ^ min (Int.toNat (u64.wrap q6_7)) u64.bits)) (4294967295:Int)))))) then
 some (Sum.inl ())
 else
 some (Sum.inr ())
def f219_l7 (lo:Int) (y_:Int) (q6_7:Int) (go : (Int×Int) → Option Int) (rhat:Int) (q0:Int) : Option Int :=
 bindF (f219_j8 lo y_ q6_7 rhat q0) fun z8 =>
 sumF z8 (fun z8a =>
 bif (decide ((u64.wrap (rhat + (Int.fdiv (u64.wrap (y_ * 2 ^ min (Int.toNat (u64.wrap q6_7)) u64.bits)) (2 ^ min (Int.toNat (32:Int)) u64.bits)))) ≥ (4294967296:Int))) then
 some (u64.wrap (q0 - (1:Int)))
 else
 go ((u64.wrap (rhat + (Int.fdiv (u64.wrap (y_ * 2 ^ min (Int.toNat (u64.wrap q6_7)) u64.bits)) (2 ^ min (Int.toNat (32:Int)) u64.bits)))),(u64.wrap (q0 - (1:Int))))) (fun z8b =>
 some q0)
def f219 (hi:Int) (lo:Int) (y_:Int) : Option (Int×Int) :=
 bif (y_ == (0:Int)) then
 none
 else
 bif (decide (y_ ≤ hi)) then
 none
 else
 bif (hi == (0:Int)) then
 guardF (y_ ≠ 0) <|
 guardF (y_ ≠ 0) <|
 some ((u64.wrap (Int.tdiv lo y_)),(Int.tmod lo y_))
 else
 bindF (f243 y_) fun q6_7 =>
 guardF (0 ≤ (u64.wrap q6_7)) <|
 guardF (0 ≤ (u64.wrap q6_7)) <|
 guardF (0 ≤ (u64.wrap ((64:Int) - (u64.wrap q6_7)))) <|
 guardF (0 ≤ (u64.wrap q6_7)) <|
 guardF ((Int.fdiv (u64.wrap (y_ * 2 ^ min (Int.toNat (u64.wrap q6_7)) u64.bits)) (2 ^ min (Int.toNat (32:Int)) u64.bits)) ≠ 0) <|
 bindF (loopF (fun go x=>f219_l3 lo y_ q6_7 go x.1 x.2) fuelN ((u64.wrap (Int.tdiv (bitsOf IntKind.u64 (fun p q=>p ||| q) (u64.wrap (hi * 2 ^ min (Int.toNat (u64.wrap q6_7)) u64.bits)) (Int.fdiv lo (2 ^ min (Int.toNat (u64.wrap ((64:Int) - (u64.wrap q6_7)))) u64.bits))) (Int.fdiv (u64.wrap (y_ * 2 ^ min (Int.toNat (u64.wrap q6_7)) u64.bits)) (2 ^ min (Int.toNat (32:Int)) u64.bits)))),(u64.wrap ((bitsOf IntKind.u64 (fun p q=>p ||| q) (u64.wrap (hi * 2 ^ min (Int.toNat (u64.wrap q6_7)) u64.bits)) (Int.fdiv lo (2 ^ min (Int.toNat (u64.wrap ((64:Int) - (u64.wrap q6_7)))) u64.bits))) - (u64.wrap ((u64.wrap (Int.tdiv (bitsOf IntKind.u64 (fun p q=>p ||| q) (u64.wrap (hi * 2 ^ min (Int.toNat (u64.wrap q6_7)) u64.bits)) (Int.fdiv lo (2 ^ min (Int.toNat (u64.wrap ((64:Int) - (u64.wrap q6_7)))) u64.bits))) (Int.fdiv (u64.wrap (y_ * 2 ^ min (Int.toNat (u64.wrap q6_7)) u64.bits)) (2 ^ min (Int.toNat (32:Int)) u64.bits)))) * (Int.fdiv (u64.wrap (y_ * 2 ^ min (Int.toNat (u64.wrap q6_7)) u64.bits)) (2 ^ min (Int.toNat (32:Int)) u64.bits)))))))) fun z3 =>
 guardF ((Int.fdiv (u64.wrap (y_ * 2 ^ min (Int.toNat (u64.wrap q6_7)) u64.bits)) (2 ^ min (Int.toNat (32:Int)) u64.bits)) ≠ 0) <|
 bindF (loopF (fun go x=>f219_l7 lo y_ q6_7 go x.1 x.2) fuelN ((u64.wrap ((u64.wrap ((u64.wrap ((u64.wrap ((bitsOf IntKind.u64 (fun p q=>p ||| q) (u64.wrap (hi * 2 ^ min (Int.toNat (u64.wrap q6_7)) u64.bits)) (Int.fdiv lo (2 ^ min (Int.toNat (u64.wrap ((64:Int) - (u64.wrap q6_7)))) u64.bits))) * (4294967296:Int))) + (Int.fdiv (u64.wrap (lo * 2 ^ min (Int.toNat (u64.wrap q6_7)) u64.bits)) (2 ^ min (Int.toNat (32:Int)) u64.bits)))) - (u64.wrap (z3 * (u64.wrap (y_ * 2 ^ min (Int.toNat (u64.wrap q6_7)) u64.bits)))))) - (u64.wrap ((u64.wrap (Int.tdiv (u64.wrap ((u64.wrap ((u64.wrap ((bitsOf IntKind.u64 (fun p q=>p ||| q) (u64.wrap (hi * 2 ^ min (Int.toNat (u64.wrap q6_7)) u64.bits)) (Int.fdiv lo (2 ^ min (Int.toNat (u64.wrap ((64:Int) - (u64.wrap q6_7)))) u64.bits))) * (4294967296:Int))) + (Int.fdiv (u64.wrap (lo * 2 ^ min (Int.toNat (u64.wrap q6_7)) u64.bits)) (2 ^ min (Int.toNat (32:Int)) u64.bits)))) - (u64.wrap (z3 * (u64.wrap (y_ * 2 ^ min (Int.toNat (u64.wrap q6_7)) u64.bits)))))) (Int.fdiv (u64.wrap (y_ * 2 ^ min (Int.toNat (u64.wrap q6_7)) u64.bits)) (2 ^ min (Int.toNat (32:Int)) u64.bits)))) * (Int.fdiv (u64.wrap (y_ * 2 ^ min (Int.toNat (u64.wrap q6_7)) u64.bits)) (2 ^ min (Int.toNat (32:Int)) u64.bits)))))),(u64.wrap (Int.tdiv (u64.wrap ((u64.wrap ((u64.wrap ((bitsOf IntKind.u64 (fun p q=>p ||| q) (u64.wrap (hi * 2 ^ min (Int.toNat (u64.wrap q6_7)) u64.bits)) (Int.fdiv lo (2 ^ min (Int.toNat (u64.wrap ((64:Int) - (u64.wrap q6_7)))) u64.bits))) * (4294967296:Int))) + (Int.fdiv (u64.wrap (lo * 2 ^ min (Int.toNat (u64.wrap q6_7)) u64.bits)) (2 ^ min (Int.toNat (32:Int)) u64.bits)))) - (u64.wrap (z3 * (u64.wrap (y_ * 2 ^ min (Int.toNat (u64.wrap q6_7)) u64.bits)))))) (Int.fdiv (u64.wrap (y_ * 2 ^ min (Int.toNat (u64.wrap q6_7)) u64.bits)) (2 ^ min (Int.toNat (32:Int)) u64.bits)))))) fun z7 =>
 guardF (0 ≤ (u64.wrap q6_7)) <|
 some ((u64.wrap ((u64.wrap (z3 * (4294967296:Int))) + z7)),(Int.fdiv (u64.wrap ((u64.wrap ((u64.wrap ((u64.wrap ((u64.wrap ((u64.wrap ((bitsOf IntKind.u64 (fun p q=>p ||| q) (u64.wrap (hi * 2 ^ min (Int.toNat (u64.wrap q6_7)) u64.bits)) (Int.fdiv lo (2 ^ min (Int.toNat (u64.wrap ((64:Int) - (u64.wrap q6_7)))) u64.bits))) * (4294967296:Int))) + (Int.fdiv (u64.wrap (lo * 2 ^ min (Int.toNat (u64.wrap q6_7)) u64.bits)) (2 ^ min (Int.toNat (32:Int)) u64.bits)))) - (u64.wrap (z3 * (u64.wrap (y_ * 2 ^ min (Int.toNat (u64.wrap q6_7)) u64.bits)))))) * (4294967296:Int))) + (bitsOf IntKind.u64 (fun p q=>p &&& q) (u64.wrap (lo * 2 ^ min (Int.toNat (u64.wrap q6_7)) u64.bits)) (4294967295:Int)))) - (u64.wrap (z7 * (u64.wrap (y_ * 2 ^ min (Int.toNat (u64.wrap q6_7)) u64.bits)))))) (2 ^ min (Int.toNat (u64.wrap q6_7)) u64.bits)))
def C219 : Con where
 X := Int×Int×Int
 Y := Int×Int
 e := 0
 args x := [.dat T4 x.1,.dat T4 x.2.1,.dat T4 x.2.2]
 hin x := []
 F x := f219 x.1 x.2.1 x.2.2
 ret y := [.dat T4 y.1,.dat T4 y.2]
 hout y := []
 nout := 0
theorem C219_vc (hi:Int) (lo:Int) (y_:Int) (y : Int×Int) (q : f219 hi lo y_ = some y) : VC Tryz.f219 C219 (hi,lo,y_) y := by
 unfold f219 at q
 refine OL (OL (OL (cI q (fun q=>?_) (fun q=>?_))))
 ·exact nomatch q
 refine OL (OL (cI q (fun q=>?_) (fun q=>?_)))
 ·exact nomatch q
 refine OL (OL (cI q (fun q=>?_) (fun q=>?_)))
 ·refine OL (EI (.take 0 (.take 1 (.take 2 (.take 3 (.take 4 (.take 5 (.take 6 (.take 7 .done)))))))) (EI [] (EI [] (AI rfl (gI q (fun q=>?_))))))
  refine gI q (fun q=>?_)
  cases sE q
  refine AI rfl (E4 [] (R3 (AI TV TV)))
 refine OL ?_
 obtain ⟨q6_7,hq6_7,q⟩ := bE q
 refine OL (AI f243_in (cV (cQ C243 y_ q6_7 [] false C243_holds hq6_7 rfl rfl (AI rfl (K0 (OL (gI q (fun q=>?_))))))))
 refine OL (AI (by decide) (OL (OL (gI q (fun q=>?_)))))
 refine gI q (fun q=>?_)
 refine OL (gI q (fun q=>?_))
 refine OL (AI (by decide) (OL (OL (gI q (fun q=>?_)))))
 refine OL (OL ?_)
 obtain ⟨z3,hz3,q⟩ := bE q
 refine lI (Int×Int) Int (fun x=>⟨[(2,.dat T4 (u64.wrap (y_ * 2 ^ min (Int.toNat (u64.wrap q6_7)) u64.bits))),(8,.dat T4 (u64.wrap q6_7)),(9,.dat T4 (Int.fdiv (u64.wrap (y_ * 2 ^ min (Int.toNat (u64.wrap q6_7)) u64.bits)) (2 ^ min (Int.toNat (32:Int)) u64.bits))),(10,.dat T4 (bitsOf IntKind.u64 (fun p q=>p &&& q) (u64.wrap (y_ * 2 ^ min (Int.toNat (u64.wrap q6_7)) u64.bits)) (4294967295:Int))),(11,.dat T4 (bitsOf IntKind.u64 (fun p q=>p ||| q) (u64.wrap (hi * 2 ^ min (Int.toNat (u64.wrap q6_7)) u64.bits)) (Int.fdiv lo (2 ^ min (Int.toNat (u64.wrap ((64:Int) - (u64.wrap q6_7)))) u64.bits)))),(13,.dat T4 (Int.fdiv (u64.wrap (lo * 2 ^ min (Int.toNat (u64.wrap q6_7)) u64.bits)) (2 ^ min (Int.toNat (32:Int)) u64.bits))),(14,.dat T4 (bitsOf IntKind.u64 (fun p q=>p &&& q) (u64.wrap (lo * 2 ^ min (Int.toNat (u64.wrap q6_7)) u64.bits)) (4294967295:Int))),(15,.dat T4 x.1),(16,.dat T4 x.2)],[],0⟩) (fun z=>[(2,⟨[(2,.dat T4 (u64.wrap (y_ * 2 ^ min (Int.toNat (u64.wrap q6_7)) u64.bits))),(8,.dat T4 (u64.wrap q6_7)),(9,.dat T4 (Int.fdiv (u64.wrap (y_ * 2 ^ min (Int.toNat (u64.wrap q6_7)) u64.bits)) (2 ^ min (Int.toNat (32:Int)) u64.bits))),(10,.dat T4 (bitsOf IntKind.u64 (fun p q=>p &&& q) (u64.wrap (y_ * 2 ^ min (Int.toNat (u64.wrap q6_7)) u64.bits)) (4294967295:Int))),(11,.dat T4 (bitsOf IntKind.u64 (fun p q=>p ||| q) (u64.wrap (hi * 2 ^ min (Int.toNat (u64.wrap q6_7)) u64.bits)) (Int.fdiv lo (2 ^ min (Int.toNat (u64.wrap ((64:Int) - (u64.wrap q6_7)))) u64.bits)))),(13,.dat T4 (Int.fdiv (u64.wrap (lo * 2 ^ min (Int.toNat (u64.wrap q6_7)) u64.bits)) (2 ^ min (Int.toNat (32:Int)) u64.bits))),(14,.dat T4 (bitsOf IntKind.u64 (fun p q=>p &&& q) (u64.wrap (lo * 2 ^ min (Int.toNat (u64.wrap q6_7)) u64.bits)) (4294967295:Int))),(15,.dat T4 z)],[],0⟩)]) (loopF (fun go x=>f219_l3 lo y_ q6_7 go x.1 x.2)) fuelN ((u64.wrap (Int.tdiv (bitsOf IntKind.u64 (fun p q=>p ||| q) (u64.wrap (hi * 2 ^ min (Int.toNat (u64.wrap q6_7)) u64.bits)) (Int.fdiv lo (2 ^ min (Int.toNat (u64.wrap ((64:Int) - (u64.wrap q6_7)))) u64.bits))) (Int.fdiv (u64.wrap (y_ * 2 ^ min (Int.toNat (u64.wrap q6_7)) u64.bits)) (2 ^ min (Int.toNat (32:Int)) u64.bits)))),(u64.wrap ((bitsOf IntKind.u64 (fun p q=>p ||| q) (u64.wrap (hi * 2 ^ min (Int.toNat (u64.wrap q6_7)) u64.bits)) (Int.fdiv lo (2 ^ min (Int.toNat (u64.wrap ((64:Int) - (u64.wrap q6_7)))) u64.bits))) - (u64.wrap ((u64.wrap (Int.tdiv (bitsOf IntKind.u64 (fun p q=>p ||| q) (u64.wrap (hi * 2 ^ min (Int.toNat (u64.wrap q6_7)) u64.bits)) (Int.fdiv lo (2 ^ min (Int.toNat (u64.wrap ((64:Int) - (u64.wrap q6_7)))) u64.bits))) (Int.fdiv (u64.wrap (y_ * 2 ^ min (Int.toNat (u64.wrap q6_7)) u64.bits)) (2 ^ min (Int.toNat (32:Int)) u64.bits)))) * (Int.fdiv (u64.wrap (y_ * 2 ^ min (Int.toNat (u64.wrap q6_7)) u64.bits)) (2 ^ min (Int.toNat (32:Int)) u64.bits))))))) z3 (AI hz3 (AI (E4 [] (R10 (AI TV TV))) (AI (fun _ _ h=>lZ h) (AI (fun m=>curI (fun q1=>fun rhat z q=>?_)) ?_))))
 ·have q : f219_l3 lo y_ q6_7 (loopF (fun go x=>f219_l3 lo y_ q6_7 go x.1 x.2) m) q1 rhat = some z := q
  unfold f219_l3 at q
  obtain ⟨z4,hz4,q⟩ := bE q
  refine OQ ⟨Sum.elim (fun z4a=>[(0,⟨[(2,.dat T4 (u64.wrap (y_ * 2 ^ min (Int.toNat (u64.wrap q6_7)) u64.bits))),(8,.dat T4 (u64.wrap q6_7)),(9,.dat T4 (Int.fdiv (u64.wrap (y_ * 2 ^ min (Int.toNat (u64.wrap q6_7)) u64.bits)) (2 ^ min (Int.toNat (32:Int)) u64.bits))),(10,.dat T4 (bitsOf IntKind.u64 (fun p q=>p &&& q) (u64.wrap (y_ * 2 ^ min (Int.toNat (u64.wrap q6_7)) u64.bits)) (4294967295:Int))),(11,.dat T4 (bitsOf IntKind.u64 (fun p q=>p ||| q) (u64.wrap (hi * 2 ^ min (Int.toNat (u64.wrap q6_7)) u64.bits)) (Int.fdiv lo (2 ^ min (Int.toNat (u64.wrap ((64:Int) - (u64.wrap q6_7)))) u64.bits)))),(13,.dat T4 (Int.fdiv (u64.wrap (lo * 2 ^ min (Int.toNat (u64.wrap q6_7)) u64.bits)) (2 ^ min (Int.toNat (32:Int)) u64.bits))),(14,.dat T4 (bitsOf IntKind.u64 (fun p q=>p &&& q) (u64.wrap (lo * 2 ^ min (Int.toNat (u64.wrap q6_7)) u64.bits)) (4294967295:Int))),(15,.dat T4 q1),(16,.dat T4 rhat)],[],0⟩)]) (fun z4b=>[(2,⟨[(2,.dat T4 (u64.wrap (y_ * 2 ^ min (Int.toNat (u64.wrap q6_7)) u64.bits))),(8,.dat T4 (u64.wrap q6_7)),(9,.dat T4 (Int.fdiv (u64.wrap (y_ * 2 ^ min (Int.toNat (u64.wrap q6_7)) u64.bits)) (2 ^ min (Int.toNat (32:Int)) u64.bits))),(10,.dat T4 (bitsOf IntKind.u64 (fun p q=>p &&& q) (u64.wrap (y_ * 2 ^ min (Int.toNat (u64.wrap q6_7)) u64.bits)) (4294967295:Int))),(11,.dat T4 (bitsOf IntKind.u64 (fun p q=>p ||| q) (u64.wrap (hi * 2 ^ min (Int.toNat (u64.wrap q6_7)) u64.bits)) (Int.fdiv lo (2 ^ min (Int.toNat (u64.wrap ((64:Int) - (u64.wrap q6_7)))) u64.bits)))),(13,.dat T4 (Int.fdiv (u64.wrap (lo * 2 ^ min (Int.toNat (u64.wrap q6_7)) u64.bits)) (2 ^ min (Int.toNat (32:Int)) u64.bits))),(14,.dat T4 (bitsOf IntKind.u64 (fun p q=>p &&& q) (u64.wrap (lo * 2 ^ min (Int.toNat (u64.wrap q6_7)) u64.bits)) (4294967295:Int))),(15,.dat T4 q1)],[],0⟩)]) z4,?_,?_⟩
  ·have q := hz4
   clear hz4
   unfold f219_j4 at q
   refine OL (cN q (fun q=>?_) (fun q=>?_))
   ·refine gY (gY (gY (gY (gY (gY (gY (cF (cI q (fun q=>?_) (fun q=>?_)))))))))
    ·cases sE q
     refine E4 [] (R10 (AI TV TV))
    cases sE q
    refine E4 [] (R9 (AI TV TV))
   refine gN (gN (gN (gN (gN (gN (gN (cT (cT ?_))))))))
   cases sE q
   refine E4 [] (R10 (AI TV TV))
  rcases z4 with z4a | z4b
  ·dsimp only [sumF] at q
   refine AI (OL (OL (OL (cI q (fun q=>?_) (fun q=>?_))))) TV
   ·cases sE q
    refine E4 [] (R9 (AI TV TV))
   refine EI ((u64.wrap (q1 - (1:Int))),(u64.wrap (rhat + (Int.fdiv (u64.wrap (y_ * 2 ^ min (Int.toNat (u64.wrap q6_7)) u64.bits)) (2 ^ min (Int.toNat (32:Int)) u64.bits))))) (AI q (E4 [] (R10 (AI TV TV))))
  dsimp only [sumF] at q
  refine AI ?_ TV
  cases sE q
  refine E4 [] (R9 (AI TV TV))
 refine AI (OL (OL (gI q (fun q=>?_)))) TV
 refine OL (OL ?_)
 obtain ⟨z7,hz7,q⟩ := bE q
 refine lI (Int×Int) Int (fun x=>⟨[(2,.dat T4 (u64.wrap (y_ * 2 ^ min (Int.toNat (u64.wrap q6_7)) u64.bits))),(8,.dat T4 (u64.wrap q6_7)),(9,.dat T4 (Int.fdiv (u64.wrap (y_ * 2 ^ min (Int.toNat (u64.wrap q6_7)) u64.bits)) (2 ^ min (Int.toNat (32:Int)) u64.bits))),(10,.dat T4 (bitsOf IntKind.u64 (fun p q=>p &&& q) (u64.wrap (y_ * 2 ^ min (Int.toNat (u64.wrap q6_7)) u64.bits)) (4294967295:Int))),(14,.dat T4 (bitsOf IntKind.u64 (fun p q=>p &&& q) (u64.wrap (lo * 2 ^ min (Int.toNat (u64.wrap q6_7)) u64.bits)) (4294967295:Int))),(15,.dat T4 z3),(16,.dat T4 x.1),(17,.dat T4 (u64.wrap ((u64.wrap ((u64.wrap ((bitsOf IntKind.u64 (fun p q=>p ||| q) (u64.wrap (hi * 2 ^ min (Int.toNat (u64.wrap q6_7)) u64.bits)) (Int.fdiv lo (2 ^ min (Int.toNat (u64.wrap ((64:Int) - (u64.wrap q6_7)))) u64.bits))) * (4294967296:Int))) + (Int.fdiv (u64.wrap (lo * 2 ^ min (Int.toNat (u64.wrap q6_7)) u64.bits)) (2 ^ min (Int.toNat (32:Int)) u64.bits)))) - (u64.wrap (z3 * (u64.wrap (y_ * 2 ^ min (Int.toNat (u64.wrap q6_7)) u64.bits))))))),(18,.dat T4 x.2)],[],0⟩) (fun z=>[(4,⟨[(2,.dat T4 (u64.wrap (y_ * 2 ^ min (Int.toNat (u64.wrap q6_7)) u64.bits))),(8,.dat T4 (u64.wrap q6_7)),(14,.dat T4 (bitsOf IntKind.u64 (fun p q=>p &&& q) (u64.wrap (lo * 2 ^ min (Int.toNat (u64.wrap q6_7)) u64.bits)) (4294967295:Int))),(15,.dat T4 z3),(17,.dat T4 (u64.wrap ((u64.wrap ((u64.wrap ((bitsOf IntKind.u64 (fun p q=>p ||| q) (u64.wrap (hi * 2 ^ min (Int.toNat (u64.wrap q6_7)) u64.bits)) (Int.fdiv lo (2 ^ min (Int.toNat (u64.wrap ((64:Int) - (u64.wrap q6_7)))) u64.bits))) * (4294967296:Int))) + (Int.fdiv (u64.wrap (lo * 2 ^ min (Int.toNat (u64.wrap q6_7)) u64.bits)) (2 ^ min (Int.toNat (32:Int)) u64.bits)))) - (u64.wrap (z3 * (u64.wrap (y_ * 2 ^ min (Int.toNat (u64.wrap q6_7)) u64.bits))))))),(18,.dat T4 z)],[],0⟩)]) (loopF (fun go x=>f219_l7 lo y_ q6_7 go x.1 x.2)) fuelN ((u64.wrap ((u64.wrap ((u64.wrap ((u64.wrap ((bitsOf IntKind.u64 (fun p q=>p ||| q) (u64.wrap (hi * 2 ^ min (Int.toNat (u64.wrap q6_7)) u64.bits)) (Int.fdiv lo (2 ^ min (Int.toNat (u64.wrap ((64:Int) - (u64.wrap q6_7)))) u64.bits))) * (4294967296:Int))) + (Int.fdiv (u64.wrap (lo * 2 ^ min (Int.toNat (u64.wrap q6_7)) u64.bits)) (2 ^ min (Int.toNat (32:Int)) u64.bits)))) - (u64.wrap (z3 * (u64.wrap (y_ * 2 ^ min (Int.toNat (u64.wrap q6_7)) u64.bits)))))) - (u64.wrap ((u64.wrap (Int.tdiv (u64.wrap ((u64.wrap ((u64.wrap ((bitsOf IntKind.u64 (fun p q=>p ||| q) (u64.wrap (hi * 2 ^ min (Int.toNat (u64.wrap q6_7)) u64.bits)) (Int.fdiv lo (2 ^ min (Int.toNat (u64.wrap ((64:Int) - (u64.wrap q6_7)))) u64.bits))) * (4294967296:Int))) + (Int.fdiv (u64.wrap (lo * 2 ^ min (Int.toNat (u64.wrap q6_7)) u64.bits)) (2 ^ min (Int.toNat (32:Int)) u64.bits)))) - (u64.wrap (z3 * (u64.wrap (y_ * 2 ^ min (Int.toNat (u64.wrap q6_7)) u64.bits)))))) (Int.fdiv (u64.wrap (y_ * 2 ^ min (Int.toNat (u64.wrap q6_7)) u64.bits)) (2 ^ min (Int.toNat (32:Int)) u64.bits)))) * (Int.fdiv (u64.wrap (y_ * 2 ^ min (Int.toNat (u64.wrap q6_7)) u64.bits)) (2 ^ min (Int.toNat (32:Int)) u64.bits)))))),(u64.wrap (Int.tdiv (u64.wrap ((u64.wrap ((u64.wrap ((bitsOf IntKind.u64 (fun p q=>p ||| q) (u64.wrap (hi * 2 ^ min (Int.toNat (u64.wrap q6_7)) u64.bits)) (Int.fdiv lo (2 ^ min (Int.toNat (u64.wrap ((64:Int) - (u64.wrap q6_7)))) u64.bits))) * (4294967296:Int))) + (Int.fdiv (u64.wrap (lo * 2 ^ min (Int.toNat (u64.wrap q6_7)) u64.bits)) (2 ^ min (Int.toNat (32:Int)) u64.bits)))) - (u64.wrap (z3 * (u64.wrap (y_ * 2 ^ min (Int.toNat (u64.wrap q6_7)) u64.bits)))))) (Int.fdiv (u64.wrap (y_ * 2 ^ min (Int.toNat (u64.wrap q6_7)) u64.bits)) (2 ^ min (Int.toNat (32:Int)) u64.bits))))) z7 (AI hz7 (AI (E4 [] (R10 (AI TV TV))) (AI (fun _ _ h=>lZ h) (AI (fun m=>curI (fun rhat=>fun q0 z q=>?_)) ?_))))
 ·have q : f219_l7 lo y_ q6_7 (loopF (fun go x=>f219_l7 lo y_ q6_7 go x.1 x.2) m) rhat q0 = some z := q
  unfold f219_l7 at q
  obtain ⟨z8,hz8,q⟩ := bE q
  refine OQ ⟨Sum.elim (fun z8a=>[(0,⟨[(2,.dat T4 (u64.wrap (y_ * 2 ^ min (Int.toNat (u64.wrap q6_7)) u64.bits))),(8,.dat T4 (u64.wrap q6_7)),(9,.dat T4 (Int.fdiv (u64.wrap (y_ * 2 ^ min (Int.toNat (u64.wrap q6_7)) u64.bits)) (2 ^ min (Int.toNat (32:Int)) u64.bits))),(10,.dat T4 (bitsOf IntKind.u64 (fun p q=>p &&& q) (u64.wrap (y_ * 2 ^ min (Int.toNat (u64.wrap q6_7)) u64.bits)) (4294967295:Int))),(14,.dat T4 (bitsOf IntKind.u64 (fun p q=>p &&& q) (u64.wrap (lo * 2 ^ min (Int.toNat (u64.wrap q6_7)) u64.bits)) (4294967295:Int))),(15,.dat T4 z3),(16,.dat T4 rhat),(17,.dat T4 (u64.wrap ((u64.wrap ((u64.wrap ((bitsOf IntKind.u64 (fun p q=>p ||| q) (u64.wrap (hi * 2 ^ min (Int.toNat (u64.wrap q6_7)) u64.bits)) (Int.fdiv lo (2 ^ min (Int.toNat (u64.wrap ((64:Int) - (u64.wrap q6_7)))) u64.bits))) * (4294967296:Int))) + (Int.fdiv (u64.wrap (lo * 2 ^ min (Int.toNat (u64.wrap q6_7)) u64.bits)) (2 ^ min (Int.toNat (32:Int)) u64.bits)))) - (u64.wrap (z3 * (u64.wrap (y_ * 2 ^ min (Int.toNat (u64.wrap q6_7)) u64.bits))))))),(18,.dat T4 q0)],[],0⟩)]) (fun z8b=>[(4,⟨[(2,.dat T4 (u64.wrap (y_ * 2 ^ min (Int.toNat (u64.wrap q6_7)) u64.bits))),(8,.dat T4 (u64.wrap q6_7)),(14,.dat T4 (bitsOf IntKind.u64 (fun p q=>p &&& q) (u64.wrap (lo * 2 ^ min (Int.toNat (u64.wrap q6_7)) u64.bits)) (4294967295:Int))),(15,.dat T4 z3),(17,.dat T4 (u64.wrap ((u64.wrap ((u64.wrap ((bitsOf IntKind.u64 (fun p q=>p ||| q) (u64.wrap (hi * 2 ^ min (Int.toNat (u64.wrap q6_7)) u64.bits)) (Int.fdiv lo (2 ^ min (Int.toNat (u64.wrap ((64:Int) - (u64.wrap q6_7)))) u64.bits))) * (4294967296:Int))) + (Int.fdiv (u64.wrap (lo * 2 ^ min (Int.toNat (u64.wrap q6_7)) u64.bits)) (2 ^ min (Int.toNat (32:Int)) u64.bits)))) - (u64.wrap (z3 * (u64.wrap (y_ * 2 ^ min (Int.toNat (u64.wrap q6_7)) u64.bits))))))),(18,.dat T4 q0)],[],0⟩)]) z8,?_,?_⟩
  ·have q := hz8
   clear hz8
   unfold f219_j8 at q
   refine OL (cN q (fun q=>?_) (fun q=>?_))
   ·refine gY (gY (gY (gY (gY (gY (gY (cF (cI q (fun q=>?_) (fun q=>?_)))))))))
    ·cases sE q
     refine E4 [] (R10 (AI TV TV))
    cases sE q
    refine E4 [] (R7 (AI TV TV))
   refine gN (gN (gN (gN (gN (gN (gN (cT (cT ?_))))))))
   cases sE q
   refine E4 [] (R10 (AI TV TV))
  rcases z8 with z8a | z8b
  ·dsimp only [sumF] at q
   refine AI (OL (OL (OL (cI q (fun q=>?_) (fun q=>?_))))) TV
   ·cases sE q
    refine E4 [] (R7 (AI TV TV))
   refine EI ((u64.wrap (rhat + (Int.fdiv (u64.wrap (y_ * 2 ^ min (Int.toNat (u64.wrap q6_7)) u64.bits)) (2 ^ min (Int.toNat (32:Int)) u64.bits)))),(u64.wrap (q0 - (1:Int)))) (AI q (E4 [] (R10 (AI TV TV))))
  dsimp only [sumF] at q
  refine AI ?_ TV
  cases sE q
  refine E4 [] (R7 (AI TV TV))
 refine AI (OL (gI q (fun q=>?_))) TV
 cases sE q
 refine AI rfl (E4 [] (R3 (AI TV TV)))
theorem C219_holds : HP C219 219 := hH Tryz.f219 (by kernel_rfl) rfl (fun x y q=>C219_vc x.1 x.2.1 x.2.2 y q)
theorem f219_in : InP 219 := inP (by kernel_rfl)
def f215_j3 (r2:Int) (r4 : Int×Int) : Option Bool :=
 bif (decide (r4.2 > (u64.wrap (r2 - r4.2)))) then
 some true
 else
 bif (r4.2 == (u64.wrap (r2 - r4.2))) then
 some ((bitsOf IntKind.u64 (fun p q=>p &&& q) r4.1 (1:Int)) == (1:Int))
 else
 some false
def f215_j2 (r2:Int) (r4 : Int×Int) : Option (Int×Int) :=
 bindF (f215_j3 r2 r4) fun z8 =>
 bif z8 then
 bindF (add64 r4.1 (1:Int) (0:Int)) fun r9 =>
 some (r9.1,r9.2)
 else
 some (r4.1,(0:Int))
def f215 (a:Int) (b:Int) : Option Int :=
 bif (b == (0:Int)) then
 bif (decide (a > (0:Int))) then
 some (9223372036854775807:Int)
 else
 bif (decide (a < (0:Int))) then
 some (-9223372036854775808:Int)
 else
 some (0:Int)
 else
 bindF (f194 a) fun r1 =>
 bindF (f194 b) fun r2 =>
 bif (decide ((Int.fdiv r1 (2 ^ min (Int.toNat (32:Int)) u64.bits)) ≥ r2)) then
 bindF (f195 (1:Int) (0:Int) (!((decide (a < (0:Int))) == (decide (b < (0:Int)))))) fun r3 =>
 some r3
 else
 bindF (f219 (Int.fdiv r1 (2 ^ min (Int.toNat (32:Int)) u64.bits)) (u64.wrap (r1 * 2 ^ min (Int.toNat (32:Int)) u64.bits)) r2) fun r4 =>
 bindF (f215_j2 r2 r4) fun z7 =>
 bindF (f195 z7.2 z7.1 (!((decide (a < (0:Int))) == (decide (b < (0:Int)))))) fun r10 =>
 some r10
def C215 : Con where
 X := Int×Int
 Y := Int
 e := 0
 args x := [.dat T2 x.1,.dat T2 x.2]
 hin x := []
 F x := f215 x.1 x.2
 ret y := [.dat T2 y]
 hout y := []
 nout := 0
theorem C215_vc (a:Int) (b:Int) (y:Int) (q : f215 a b = some y) : VC Tryz.f215 C215 (a,b) y := by
 unfold f215 at q
 refine OL (OL (OL (cI q (fun q=>?_) (fun q=>?_))))
 ·refine OL (OL (cI q (fun q=>?_) (fun q=>?_)))
  ·cases sE q
   refine OL (AI rfl (E4 [] (R2 (AI TV TV))))
  refine OL (cI q (fun q=>?_) (fun q=>?_))
  ·cases sE q
   refine OL (AI rfl (E4 [] (R2 (AI TV TV))))
  cases sE q
  refine OL (AI rfl (E4 [] (R2 (AI TV TV))))
 refine OL ?_
 obtain ⟨r1,hr1,q⟩ := bE q
 refine OL (AI f194_in (cV (cQ C194 a r1 [] false C194_holds hr1 rfl rfl (AI rfl (K0 ?_)))))
 obtain ⟨r2,hr2,q⟩ := bE q
 refine OL (AI f194_in (cV (cQ C194 b r2 [] false C194_holds hr2 rfl rfl (AI rfl (K0 (OL (OL (AI (by decide) (AI (by decide) (OL (OL (cI q (fun q=>?_) (fun q=>?_)))))))))))))
 ·refine OL ?_
  obtain ⟨r3,hr3,q⟩ := bE q
  refine OL (AI f195_in (cV (cQ C195 ((1:Int),(0:Int),(!((decide (a < (0:Int))) == (decide (b < (0:Int)))))) r3 [] false C195_holds hr3 rfl rfl (R3 (K0 ?_)))))
  cases sE q
  refine AI rfl (E4 [] (R2 (AI TV TV)))
 refine OL ?_
 obtain ⟨r4,hr4,q⟩ := bE q
 refine OL (AI f219_in (cV (cQ C219 ((Int.fdiv r1 (2 ^ min (Int.toNat (32:Int)) u64.bits)),(u64.wrap (r1 * 2 ^ min (Int.toNat (32:Int)) u64.bits)),r2) r4 [] false C219_holds hr4 rfl rfl (R3 (K0 (OL ?_))))))
 obtain ⟨z7,hz7,q⟩ := bE q
 refine OQ ⟨[(0,⟨[(7,.dat .bool (!((decide (a < (0:Int))) == (decide (b < (0:Int)))))),(10,.dat T4 z7.1),(12,.dat T4 z7.2)],[],0⟩)],?_,?_⟩
 ·have q := hz7
  clear hz7
  unfold f215_j2 at q
  obtain ⟨z8,hz8,q⟩ := bE q
  refine OQ ⟨[(0,⟨[(7,.dat .bool (!((decide (a < (0:Int))) == (decide (b < (0:Int)))))),(10,.dat T4 r4.1),(12,.dat T4 (0:Int)),(62,.dat .bool z8)],[],0⟩)],?_,?_⟩
  ·have q := hz8
   clear hz8
   unfold f215_j3 at q
   refine cN q (fun q=>?_) (fun q=>?_)
   ·refine gY (gY (gY (gY (gY (cI q (fun q=>?_) (fun q=>?_))))))
    ·refine gX (gX (gY (cT (cF ?_))))
     cases sE q
     refine E4 [] (R5 (AI TV TV))
    refine gM (gM (gY (cF (cF ?_))))
    cases sE q
    refine E4 [] (R5 (AI TV TV))
   refine gN (gN (gN (gN (gN (gN (cT ?_))))))
   cases sE q
   refine E4 [] (R5 (AI TV TV))
  refine AI (cI q (fun q=>?_) (fun q=>?_)) TV
  ·obtain ⟨r9,hr9,q⟩ := bE q
   refine OQ ⟨ext3 add64,[r9.1,r9.2],add64_ok,AI (ext3I hr9) ?_⟩
   cases sE q
   refine E4 [] (R4 (AI TV TV))
  cases sE q
  refine E4 [] (R4 (AI TV TV))
 refine AI (OL ?_) TV
 obtain ⟨r10,hr10,q⟩ := bE q
 refine OL (AI f195_in (cV (cQ C195 (z7.2,z7.1,(!((decide (a < (0:Int))) == (decide (b < (0:Int)))))) r10 [] false C195_holds hr10 rfl rfl (R3 (K0 ?_)))))
 cases sE q
 refine AI rfl (E4 [] (R2 (AI TV TV)))
theorem C215_holds : HP C215 215 := hH Tryz.f215 (by kernel_rfl) rfl (fun x y q=>C215_vc x.1 x.2 y q)
theorem f215_in : InP 215 := inP (by kernel_rfl)
def f217 (a : Int×Int) : Option (Int×Int×Bool) :=
 bif (decide (a.1 < (0:Int))) then
 bindF (f221 (a.1,a.2)) fun q4_7 =>
 some ((u64.wrap q4_7.1),q4_7.2,true)
 else
 some ((u64.wrap a.1),a.2,false)
def C217 : Con where
 X := Int×Int
 Y := Int×Int×Bool
 e := 0
 args x := [.dat T5 x]
 hin x := []
 F x := f217 x
 ret y := [.dat T4 y.1,.dat T4 y.2.1,.dat .bool y.2.2]
 hout y := []
 nout := 0
theorem C217_vc (a : Int×Int) (y : Int×Int×Bool) (q : f217 a = some y) : VC Tryz.f217 C217 a y := by
 unfold f217 at q
 refine OL (OL (OL (cI q (fun q=>?_) (fun q=>?_))))
 ·refine OL ?_
  obtain ⟨q4_7,hq4_7,q⟩ := bE q
  refine OL (AI f221_in (cV (cQ C221 (a.1,a.2) q4_7 [] false C221_holds hq4_7 rfl rfl (R2 (K0 (OL (OL (EI (.take 0 (.take 1 (.take 2 (.take 3 (.take 4 (.take 5 (.take 6 (.take 7 .done)))))))) (EI [] (EI [] (AI rfl ?_)))))))))))
  cases sE q
  refine AI rfl (E4 [] (R4 (AI TV TV)))
 refine OL (EI (.take 0 (.take 1 (.take 2 (.take 3 (.take 4 (.take 5 (.take 6 (.take 7 .done)))))))) (EI [] (EI [] (AI rfl ?_))))
 cases sE q
 refine AI rfl (E4 [] (R4 (AI TV TV)))
theorem C217_holds : HP C217 217 := hH Tryz.f217 (by kernel_rfl) rfl (fun x y q=>C217_vc x y q)
theorem f217_in : InP 217 := inP (by kernel_rfl)
def f170_j3 (r4:Int) (q6_7 : Int×Int) : Option Bool :=
 bif (decide (q6_7.2 > (u64.wrap (r4 - q6_7.2)))) then
 some true
 else
 bif (q6_7.2 == (u64.wrap (r4 - q6_7.2))) then
 some ((bitsOf IntKind.u64 (fun p q=>p &&& q) q6_7.1 (1:Int)) == (1:Int))
 else
 some false
def f170_j2 (r3 : Int×Int×Bool) (r4:Int) (q6_7 : Int×Int) : Option (Int×Int) :=
 bindF (f170_j3 r4 q6_7) fun z8 =>
 bif z8 then
 bindF (add64 q6_7.1 (1:Int) (0:Int)) fun r9 =>
 some ((u64.wrap ((u64.wrap (Int.tdiv r3.1 r4)) + r9.2)),r9.1)
 else
 some ((u64.wrap (Int.tdiv r3.1 r4)),q6_7.1)
def f170 (a : Int×Int) (n:Int) : Option Int :=
 bif (n == (0:Int)) then
 bindF (f216 (a.1,a.2) ((0:Int),(0:Int))) fun r1 =>
 bindF (f215 r1 (0:Int)) fun r2 =>
 some r2
 else
 bindF (f217 (a.1,a.2)) fun r3 =>
 bindF (f218 n) fun r4 =>
 guardF (r4 ≠ 0) <|
 guardF (r4 ≠ 0) <|
 bindF (f219 (Int.tmod r3.1 r4) r3.2.1 r4) fun q6_7 =>
 bindF (f170_j2 r3 r4 q6_7) fun z7 =>
 bif (!(r3.2.2 == (decide (n < (0:Int))))) then
 bindF (f221 ((i64.wrap (if (9223372036854775807:Int) < z7.1 then (9223372036854775807:Int) else z7.1)),z7.2)) fun r10 =>
 bindF (f220 (r10.1,r10.2)) fun r11 =>
 some r11
 else
 bindF (f220 ((i64.wrap (if (9223372036854775807:Int) < z7.1 then (9223372036854775807:Int) else z7.1)),z7.2)) fun r12 =>
 some r12
def C170 : Con where
 X := (Int×Int)×Int
 Y := Int
 e := 0
 args x := [.dat T5 x.1,.dat T2 x.2]
 hin x := []
 F x := f170 x.1 x.2
 ret y := [.dat T2 y]
 hout y := []
 nout := 0
theorem C170_vc (a : Int×Int) (n:Int) (y:Int) (q : f170 a n = some y) : VC Tryz.f170 C170 (a,n) y := by
 unfold f170 at q
 refine OL (OL (OL (cI q (fun q=>?_) (fun q=>?_))))
 ·refine OL ?_
  obtain ⟨r1,hr1,q⟩ := bE q
  refine OL (AI f216_in (cV (cQ C216 ((a.1,a.2),((0:Int),(0:Int))) r1 [] false C216_holds hr1 rfl rfl (R4 (K0 ?_)))))
  obtain ⟨r2,hr2,q⟩ := bE q
  refine OL (AI f215_in (cV (cQ C215 (r1,(0:Int)) r2 [] false C215_holds hr2 rfl rfl (R2 (K0 ?_)))))
  cases sE q
  refine AI rfl (E4 [] (R2 (AI TV TV)))
 refine OL ?_
 obtain ⟨r3,hr3,q⟩ := bE q
 refine OL (AI f217_in (cV (cQ C217 (a.1,a.2) r3 [] false C217_holds hr3 rfl rfl (R2 (K0 (OL ?_))))))
 obtain ⟨r4,hr4,q⟩ := bE q
 refine OL (AI f218_in (cV (cQ C218 n r4 [] false C218_holds hr4 rfl rfl (AI rfl (K0 (OL (OL (EI (.take 0 (.take 1 (.take 2 (.take 3 (.take 4 (.take 5 (.take 6 (.take 7 .done)))))))) (EI [] (EI [] (AI rfl (gI q (fun q=>?_)))))))))))))
 refine gI q (fun q=>?_)
 refine OL ?_
 obtain ⟨q6_7,hq6_7,q⟩ := bE q
 refine OL (AI f219_in (cV (cQ C219 ((Int.tmod r3.1 r4),r3.2.1,r4) q6_7 [] false C219_holds hq6_7 rfl rfl (R3 (K0 ?_)))))
 obtain ⟨z7,hz7,q⟩ := bE q
 refine OQ ⟨[(0,⟨[(7,.dat .bool (!(r3.2.2 == (decide (n < (0:Int)))))),(9,.dat T4 z7.1),(11,.dat T4 z7.2)],[],0⟩)],?_,?_⟩
 ·have q := hz7
  clear hz7
  unfold f170_j2 at q
  obtain ⟨z8,hz8,q⟩ := bE q
  refine OQ ⟨[(0,⟨[(7,.dat .bool (!(r3.2.2 == (decide (n < (0:Int)))))),(9,.dat T4 (u64.wrap (Int.tdiv r3.1 r4))),(11,.dat T4 q6_7.1),(61,.dat .bool z8)],[],0⟩)],?_,?_⟩
  ·have q := hz8
   clear hz8
   unfold f170_j3 at q
   refine cN q (fun q=>?_) (fun q=>?_)
   ·refine gY (gY (gY (gY (gY (cI q (fun q=>?_) (fun q=>?_))))))
    ·refine gX (gX (gY (cT (cF ?_))))
     cases sE q
     refine E4 [] (R5 (AI TV TV))
    refine gM (gM (gY (cF (cF ?_))))
    cases sE q
    refine E4 [] (R5 (AI TV TV))
   refine gN (gN (gN (gN (gN (gN (cT ?_))))))
   cases sE q
   refine E4 [] (R5 (AI TV TV))
  refine AI (cI q (fun q=>?_) (fun q=>?_)) TV
  ·refine OL (OL ?_)
   obtain ⟨r9,hr9,q⟩ := bE q
   refine OQ ⟨ext3 add64,[r9.1,r9.2],add64_ok,AI (ext3I hr9) ?_⟩
   cases sE q
   refine E4 [] (R4 (AI TV TV))
  cases sE q
  refine E4 [] (R4 (AI TV TV))
 refine AI (OL (OL (OL (OL (cI q (fun q=>?_) (fun q=>?_)))))) TV
 ·refine OL ?_
  obtain ⟨r10,hr10,q⟩ := bE q
  refine OL (AI f221_in (cV (cQ C221 ((i64.wrap (if (9223372036854775807:Int) < z7.1 then (9223372036854775807:Int) else z7.1)),z7.2) r10 [] false C221_holds hr10 rfl rfl (R2 (K0 ?_)))))
  obtain ⟨r11,hr11,q⟩ := bE q
  refine OL (AI f220_in (cV (cQ C220 (r10.1,r10.2) r11 [] false C220_holds hr11 rfl rfl (R2 (K0 ?_)))))
  cases sE q
  refine AI rfl (E4 [] (R2 (AI TV TV)))
 refine OL ?_
 obtain ⟨r12,hr12,q⟩ := bE q
 refine OL (AI f220_in (cV (cQ C220 ((i64.wrap (if (9223372036854775807:Int) < z7.1 then (9223372036854775807:Int) else z7.1)),z7.2) r12 [] false C220_holds hr12 rfl rfl (R2 (K0 ?_)))))
 cases sE q
 refine AI rfl (E4 [] (R2 (AI TV TV)))
theorem C170_holds : HP C170 170 := hH Tryz.f170 (by kernel_rfl) rfl (fun x y q=>C170_vc x.1 x.2 y q)
theorem f170_in : InP 170 := inP (by kernel_rfl)
def f204 (a : LI×LI) : Option (Int×Int) :=
 bindF (f59 (a.1,a.2)) fun q3_8 =>
 bif (!q3_8) then
 some ((0:Int),(1:Int))
 else
 bindF (f236 a.2) fun q3_2 =>
 bindF (f170 (q3_2.1,q3_2.2) (List.length a.2:Int)) fun q3_6 =>
 some (q3_6,(0:Int))
def C204 : Con where
 X := LI×LI
 Y := Int×Int
 e := 0
 args x := [.dat T3 x]
 hin x := []
 F x := f204 x
 ret y := [.dat T2 y.1,.dat T2 y.2]
 hout y := []
 nout := 0
theorem C204_vc (a : LI×LI) (y : Int×Int) (q : f204 a = some y) : VC Tryz.f204 C204 a y := by
 unfold f204 at q
 refine OL (OL (OL ?_))
 obtain ⟨q3_8,hq3_8,q⟩ := bE q
 refine OL (AI f59_in (cV (cQ C59 (a.1,a.2) q3_8 [] false C59_holds hq3_8 rfl rfl (R2 (K0 (cI q (fun q=>?_) (fun q=>?_)))))))
 ·cases sE q
  refine OL (AI rfl (E4 [] (R3 (AI TV TV))))
 refine OL (EI (.take 0 (.take 1 (.take 3 (.take 4 (.take 5 (.alt 2 (.alt 6 (.take 7 (.take 8 .done)) .done) .done)))))) (EI [] (EI [] (AI rfl (AI TV ?_)))))
 obtain ⟨q3_2,hq3_2,q⟩ := bE q
 refine OL (AI f236_in (cV (cQ C236 a.2 q3_2 [] false C236_holds hq3_2 rfl rfl (AI rfl (K0 (AI TV ?_))))))
 obtain ⟨q3_6,hq3_6,q⟩ := bE q
 refine OL (AI f170_in (cV (cQ C170 ((q3_2.1,q3_2.2),(List.length a.2:Int)) q3_6 [] false C170_holds hq3_6 rfl rfl (R3 (K0 ?_)))))
 cases sE q
 refine AI rfl (E4 [] (R3 (AI TV TV)))
theorem C204_holds : HP C204 204 := hH Tryz.f204 (by kernel_rfl) rfl (fun x y q=>C204_vc x y q)
theorem f204_in : InP 204 := inP (by kernel_rfl)
def f222 (kind:Int) : Option Bool :=
 bif (decide (kind ≥ (1:Int))) then
 some (decide (kind ≤ (5:Int)))
 else
 some false
def C222 : Con where
 X := Int
 Y := Bool
 e := 0
 args x := [.dat T2 x]
 hin x := []
 F x := f222 x
 ret y := [.dat .bool y]
 hout y := []
 nout := 0
theorem C222_vc (kind:Int) (y : Bool) (q : f222 kind = some y) : VC Tryz.f222 C222 kind y := by
 unfold f222 at q
 refine OL (OL (cI q (fun q=>?_) (fun q=>?_)))
 ·refine gX (cT ?_)
  cases sE q
  refine AI rfl (E4 [] (R2 (AI TV TV)))
 refine gM (cF ?_)
 cases sE q
 refine AI rfl (E4 [] (R2 (AI TV TV)))
theorem C222_holds : HP C222 222 := hH Tryz.f222 (by kernel_rfl) rfl (fun x y q=>C222_vc x y q)
theorem f222_in : InP 222 := inP (by kernel_rfl)
def f250 (n:Int) : Option Int :=
 bif (decide (n ≥ (2147483648:Int))) then
 some (9223372036854775807:Int)
 else
 bif (decide (n < (-2147483648:Int))) then
 some (-9223372036854775808:Int)
 else
 some (i64.wrap (n * 2 ^ min (Int.toNat (32:Int)) i64.bits))
def C250 : Con where
 X := Int
 Y := Int
 e := 0
 args x := [.dat T2 x]
 hin x := []
 F x := f250 x
 ret y := [.dat T2 y]
 hout y := []
 nout := 0
theorem C250_vc (n:Int) (y:Int) (q : f250 n = some y) : VC Tryz.f250 C250 n y := by
 unfold f250 at q
 refine OL (OL (OL (cI q (fun q=>?_) (fun q=>?_))))
 ·cases sE q
  refine OL (AI rfl (E4 [] (R2 (AI TV TV))))
 refine OL (cI q (fun q=>?_) (fun q=>?_))
 ·cases sE q
  refine OL (AI rfl (E4 [] (R2 (AI TV TV))))
 refine OL (AI (by decide) ?_)
 cases sE q
 refine AI rfl (E4 [] (R2 (AI TV TV)))
theorem C250_holds : HP C250 250 := hH Tryz.f250 (by kernel_rfl) rfl (fun x y q=>C250_vc x y q)
theorem f250_in : InP 250 := inP (by kernel_rfl)
def f251 (x_:Int) (lo:Int) (hi:Int) : Option Int :=
 some (if hi < (if lo > x_ then lo else x_) then hi else (if lo > x_ then lo else x_))
def C251 : Con where
 X := Int×Int×Int
 Y := Int
 e := 0
 args x := [.dat T2 x.1,.dat T2 x.2.1,.dat T2 x.2.2]
 hin x := []
 F x := f251 x.1 x.2.1 x.2.2
 ret y := [.dat T2 y]
 hout y := []
 nout := 0
theorem C251_vc (x_:Int) (lo:Int) (hi:Int) (y:Int) (q : f251 x_ lo hi = some y) : VC Tryz.f251 C251 (x_,lo,hi) y := by
 unfold f251 at q
 refine OL (OL ?_)
 cases sE q
 refine AI rfl (E4 [] (R2 (AI TV TV)))
theorem C251_holds : HP C251 251 := hH Tryz.f251 (by kernel_rfl) rfl (fun x y q=>C251_vc x.1 x.2.1 x.2.2 y q)
theorem f251_in : InP 251 := inP (by kernel_rfl)
def f252 (a:Int) : Option Int :=
 bif (a == (-9223372036854775808:Int)) then
 some (9223372036854775807:Int)
 else
 some (i64.wrap (0 - a))
def C252 : Con where
 X := Int
 Y := Int
 e := 0
 args x := [.dat T2 x]
 hin x := []
 F x := f252 x
 ret y := [.dat T2 y]
 hout y := []
 nout := 0
theorem C252_vc (a:Int) (y:Int) (q : f252 a = some y) : VC Tryz.f252 C252 a y := by
 unfold f252 at q
 refine OL (OL (OL (cI q (fun q=>?_) (fun q=>?_))))
 ·cases sE q
  refine OL (AI rfl (E4 [] (R2 (AI TV TV))))
 cases sE q
 refine OL (AI rfl (E4 [] (R2 (AI TV TV))))
theorem C252_holds : HP C252 252 := hH Tryz.f252 (by kernel_rfl) rfl (fun x y q=>C252_vc x y q)
theorem f252_in : InP 252 := inP (by kernel_rfl)
def f237 (kind:Int) (x_:Int) : Option (Int×Int) :=
 bif (kind == (1:Int)) then
 some ((if (0:Int) > x_ then (0:Int) else x_),(0:Int))
 else
 bif (kind == (2:Int)) then
 bif (decide (x_ > (0:Int))) then
 some (x_,(0:Int))
 else
 bindF (f250 (8:Int)) fun r1 =>
 bindF (f215 x_ r1) fun r2 =>
 some (r2,(0:Int))
 else
 bif (kind == (3:Int)) then
 bindF (f251 x_ (-4294967296:Int) (4294967296:Int)) fun r3 =>
 some (r3,(0:Int))
 else
 bif (kind == (4:Int)) then
 bif (decide (x_ < (0:Int))) then
 bindF (f252 x_) fun r4 =>
 some (r4,(0:Int))
 else
 some (x_,(0:Int))
 else
 bif (kind == (5:Int)) then
 bindF (f250 (2:Int)) fun r5 =>
 bindF (f215 x_ r5) fun r6 =>
 bindF (f143 r6 (2147483648:Int)) fun r7 =>
 bindF (f251 r7 (0:Int) (4294967296:Int)) fun r8 =>
 some (r8,(0:Int))
 else
 some ((0:Int),(1:Int))
def C237 : Con where
 X := Int×Int
 Y := Int×Int
 e := 0
 args x := [.dat T2 x.1,.dat T2 x.2]
 hin x := []
 F x := f237 x.1 x.2
 ret y := [.dat T2 y.1,.dat T2 y.2]
 hout y := []
 nout := 0
theorem C237_vc (kind:Int) (x_:Int) (y : Int×Int) (q : f237 kind x_ = some y) : VC Tryz.f237 C237 (kind,x_) y := by
 unfold f237 at q
 refine OL (OL (OL (OL (cI q (fun q=>?_) (fun q=>?_)))))
 ·cases sE q
  refine OL (AI rfl (E4 [] (R3 (AI TV TV))))
 refine OL (cI q (fun q=>?_) (fun q=>?_))
 ·refine OL (OL (cI q (fun q=>?_) (fun q=>?_)))
  ·cases sE q
   refine OL (AI rfl (E4 [] (R3 (AI TV TV))))
  refine OL ?_
  obtain ⟨r1,hr1,q⟩ := bE q
  refine OL (AI f250_in (cV (cQ C250 (8:Int) r1 [] false C250_holds hr1 rfl rfl (AI rfl (K0 ?_)))))
  obtain ⟨r2,hr2,q⟩ := bE q
  refine OL (AI f215_in (cV (cQ C215 (x_,r1) r2 [] false C215_holds hr2 rfl rfl (R2 (K0 ?_)))))
  cases sE q
  refine AI rfl (E4 [] (R3 (AI TV TV)))
 refine OL (cI q (fun q=>?_) (fun q=>?_))
 ·refine OL ?_
  obtain ⟨r3,hr3,q⟩ := bE q
  have hr3 : C251.F (x_,(-4294967296:Int),(4294967296:Int)) = some r3 := hr3
  refine OL (AI f251_in (cV (cQ C251 _ r3 [] false C251_holds hr3 rfl rfl (R3 (K0 ?_)))))
  cases sE q
  refine AI rfl (E4 [] (R3 (AI TV TV)))
 refine OL (cI q (fun q=>?_) (fun q=>?_))
 ·refine OL (OL (cI q (fun q=>?_) (fun q=>?_)))
  ·refine OL ?_
   obtain ⟨r4,hr4,q⟩ := bE q
   refine OL (AI f252_in (cV (cQ C252 x_ r4 [] false C252_holds hr4 rfl rfl (AI rfl (K0 ?_)))))
   cases sE q
   refine AI rfl (E4 [] (R3 (AI TV TV)))
  cases sE q
  refine OL (AI rfl (E4 [] (R3 (AI TV TV))))
 refine OL (cI q (fun q=>?_) (fun q=>?_))
 ·refine OL ?_
  obtain ⟨r5,hr5,q⟩ := bE q
  refine OL (AI f250_in (cV (cQ C250 (2:Int) r5 [] false C250_holds hr5 rfl rfl (AI rfl (K0 ?_)))))
  obtain ⟨r6,hr6,q⟩ := bE q
  refine OL (AI f215_in (cV (cQ C215 (x_,r5) r6 [] false C215_holds hr6 rfl rfl (R2 (K0 ?_)))))
  obtain ⟨r7,hr7,q⟩ := bE q
  refine OL (AI f143_in (cV (cQ C143 (r6,(2147483648:Int)) r7 [] false C143_holds hr7 rfl rfl (R2 (K0 ?_)))))
  obtain ⟨r8,hr8,q⟩ := bE q
  refine OL (AI f251_in (cV (cQ C251 (r7,(0:Int),(4294967296:Int)) r8 [] false C251_holds hr8 rfl rfl (R3 (K0 ?_)))))
  cases sE q
  refine AI rfl (E4 [] (R3 (AI TV TV)))
 cases sE q
 refine OL (AI rfl (E4 [] (R3 (AI TV TV))))
theorem C237_holds : HP C237 237 := hH Tryz.f237 (by kernel_rfl) rfl (fun x y q=>C237_vc x.1 x.2 y q)
theorem f237_in : InP 237 := inP (by kernel_rfl)
def f205_j3 (kind:Int) (t : LI×LI) : Option Bool :=
 bindF (f222 kind) fun r9 =>
 bif (!r9) then
 some true
 else
 bindF (f59 (t.1,t.2)) fun r10 =>
 some (!r10)
def f205_j2 (kind:Int) (t : LI×LI) : Option (Sum Unit Unit) :=
 bindF (f205_j3 kind t) fun z8 =>
 bif z8 then
 some (Sum.inr ())
 else
 some (Sum.inl ())
def f205_l4 (kind:Int) (t : LI×LI) (go : (Int×LI) → Option LI) (v23:Int) (l3 : LI) : Option LI :=
 bif (decide (v23 < (List.length t.2:Int))) then
 guardF (0 ≤ v23 ∧ v23 < (List.length t.2:Int)) <|
 bindF (f237 kind (rd (0:Int) t.2 v23)) fun q7_5 =>
 guardF (0 ≤ v23 ∧ v23 < (List.length l3:Int)) <|
 go ((i64.wrap (v23 + (1:Int))),(List.set l3 (Int.toNat v23) q7_5.1))
 else
 some l3
def f205 (kind:Int) (t : LI×LI) : Option (Int×LI×LI) :=
 bindF (f205_j2 kind t) fun z5 =>
 sumF z5 (fun z5a =>
 bindF (f61 (t.1,t.2)) fun r11 =>
 bindF (loopF (fun go x=>f205_l4 kind t go x.1 x.2) fuelN ((0:Int),r11.2)) fun z12 =>
 some ((0:Int),r11.1,z12)) (fun z5b =>
 some ((1:Int),[],[]))
def C205 : Con where
 X := Int×(LI×LI)
 Y := Int×LI×LI
 e := 0
 args x := [.dat T2 x.1,.dat T3 x.2]
 hin x := []
 F x := f205 x.1 x.2
 ret y := [.raw true [(.osl 0),(.osl 1)],.dat T2 y.1]
 hout y := [(0,.arr 3 T2 y.2.1),(1,.arr 40 T2 y.2.2)]
 nout := 2
theorem C205_vc (kind:Int) (t : LI×LI) (y : Int×LI×LI) (q : f205 kind t = some y) : VC Tryz.f205 C205 (kind,t) y := by
 unfold f205 at q
 refine OL ?_
 obtain ⟨z5,hz5,q⟩ := bE q
 refine OQ ⟨Sum.elim (fun z5a=>[(0,⟨[(0,.dat T2 kind),(3,P0 0 0),(4,P0 1 0)],[(0,.cells [(.d T1 t.1),(.d T1 t.2)]),(1,.cells [N0,N0])],2⟩)]) (fun z5b=>[(1,⟨[(4,P0 0 0),(5,D0 1)],[(0,.cells [N0,N0])],1⟩)]) z5,?_,?_⟩
 ·have q := hz5
  clear hz5
  unfold f205_j2 at q
  obtain ⟨z8,hz8,q⟩ := bE q
  refine OQ ⟨[(0,⟨[(0,.dat T2 kind),(3,P0 0 0),(4,P0 1 0),(16,.dat .bool z8)],[(0,.cells [(.d T1 t.1),(.d T1 t.2)]),(1,.cells [N0,N0])],2⟩)],?_,?_⟩
  ·have q := hz8
   clear hz8
   unfold f205_j3 at q
   obtain ⟨r9,hr9,q⟩ := bE q
   refine OL (AI f222_in (cV (cQ C222 kind r9 [] false C222_holds hr9 rfl rfl (AI rfl (K0 (cN q (fun q=>?_) (fun q=>?_)))))))
   ·refine gY ?_
    obtain ⟨r10,hr10,q⟩ := bE q
    refine OL (AI f59_in (cV (cQ C59 (t.1,t.2) r10 [] false C59_holds hr10 rfl rfl (R2 (K0 (gY (cF ?_)))))))
    cases sE q
    refine E4 I2 (R3 (AI (R2 TV) (R2 TV)))
   refine gN (gN (cT ?_))
   cases sE q
   refine E4 I2 (R3 (AI (R2 TV) (R2 TV)))
  refine AI (cI q (fun q=>?_) (fun q=>?_)) TV
  ·refine OL (OL ?_)
   cases sE q
   refine E4 [(0,some 1)] (R2 (AJ (AI rfl TV)))
  cases sE q
  refine E4 I2 (R2 (AI (R2 TV) (R2 TV)))
 rcases z5 with z5a | z5b
 ·dsimp only [sumF] at q
  refine AI (OL ?_) TV
  obtain ⟨r11,hr11,q⟩ := bE q
  refine OL (AI f61_in (cV (cQ C61 (t.1,t.2) r11 [] false C61_holds hr11 rfl rfl (R2 (K0 (OL (OL (OL ?_))))))))
  obtain ⟨z12,hz12,q⟩ := bE q
  refine lI (Int×LI) LI (fun x=>⟨[(0,.dat T2 kind),(4,P0 0 0),(6,P0 1 0),(21,.dat T1 t.2),(22,.dat T2 (List.length t.2:Int)),(23,.dat T2 x.1)],[(0,.cells [N0,N0]),(1,.cells [(.osl 2),(.osl 3)]),(2,.arr 3 T2 r11.1),(3,.arr 40 T2 x.2)],4⟩) (fun z=>[(2,⟨[(4,P0 0 0),(6,P0 1 0)],[(0,.cells [N0,N0]),(1,.cells [(.osl 2),(.osl 3)]),(2,.arr 3 T2 r11.1),(3,.arr 40 T2 z)],4⟩)]) (loopF (fun go x=>f205_l4 kind t go x.1 x.2)) fuelN ((0:Int),r11.2) z12 (AI hz12 (AI (E4 [(0,some 1),(1,some 4),(2,some 2),(3,some 3)] (R5 (AI (R2 TV) (R4 TV)))) (AI (fun _ _ h=>lZ h) (AI (fun m=>curI (fun v23=>fun l3 z q=>?_)) ?_))))
  ·have q : f205_l4 kind t (loopF (fun go x=>f205_l4 kind t go x.1 x.2) m) v23 l3 = some z := q
   unfold f205_l4 at q
   refine OL (OL (cI q (fun q=>?_) (fun q=>?_)))
   ·refine OL (OL (gI q (fun q=>?_)))
    refine EI (.take 0 (.take 1 (.take 2 (.take 3 (.take 4 (.alt 5 (.take 6 (.take 7 (.take 8 (.take 9 (.alt 10 .done .done))))) .done)))))) (EI [] (EI [] (AI rfl (AI TV ?_))))
    obtain ⟨q7_5,hq7_5,q⟩ := bE q
    refine OL (AI f237_in (cV (cQ C237 (kind,(rd (0:Int) t.2 v23)) q7_5 [] false C237_holds hq7_5 rfl rfl (R2 (K0 (gI q (fun q=>?_)))))))
    refine AI TV (OL (EI ((i64.wrap (v23 + (1:Int))),(List.set l3 (Int.toNat v23) q7_5.1)) (AI q (E4 I4 (R5 (AI (R2 TV) (R4 TV)))))))
   cases sE q
   refine E4 I4 (AI rfl (AI (R2 TV) (R4 TV)))
  refine AI (OL (OL ?_)) TV
  cases sE q
  refine AI rfl (E4 [(0,some 2),(1,some 3)] (R2 (AJ (R2 TV))))
 dsimp only [sumF] at q
 refine AI ?_ TV
 cases sE q
 refine AI rfl (E4 [(0,none),(1,none)] (R2 (AJ (R2 TV))))
theorem C205_holds : HP C205 205 := hH Tryz.f205 (by kernel_rfl) rfl (fun x y q=>C205_vc x.1 x.2 y q)
theorem f205_in : InP 205 := inP (by kernel_rfl)
def f206 (a : LI×LI) (wid:Int) : Option (Int×LI×LI×LI) :=
 none
def C206 : Con where
 X := (LI×LI)×Int
 Y := Int×LI×LI×LI
 e := 0
 args x := [.dat T3 x.1,.dat T2 x.2]
 hin x := []
 F x := f206 x.1 x.2
 ret y := [.raw true [(.osl 0),(.osl 1)],O0 2,.dat T2 y.1]
 hout y := [(0,.arr 3 T2 y.2.1),(1,.arr 40 T2 y.2.2.1),(2,.arr 3 T2 y.2.2.2)]
 nout := 3
theorem C206_vc (a : LI×LI) (wid:Int) (y : Int×LI×LI×LI) (q : f206 a wid = some y) : VC Tryz.f206 C206 (a,wid) y := by
 unfold f206 at q
 exact nomatch q
theorem C206_holds : HP C206 206 := hH Tryz.f206 (by kernel_rfl) rfl (fun x y q=>C206_vc x.1 x.2 y q)
theorem f206_in : InP 206 := inP (by kernel_rfl)
def f174 (a : LI×LI) (d : LI) : Option (Int×LI×LI) :=
 none
def C174 : Con where
 X := (LI×LI)×LI
 Y := Int×LI×LI
 e := 0
 args x := [.dat T3 x.1,.dat T1 x.2]
 hin x := []
 F x := f174 x.1 x.2
 ret y := [.raw true [(.osl 0),(.osl 1)],.dat T2 y.1]
 hout y := [(0,.arr 3 T2 y.2.1),(1,.arr 40 T2 y.2.2)]
 nout := 2
theorem C174_vc (a : LI×LI) (d : LI) (y : Int×LI×LI) (q : f174 a d = some y) : VC Tryz.f174 C174 (a,d) y := by
 unfold f174 at q
 exact nomatch q
theorem C174_holds : HP C174 174 := hH Tryz.f174 (by kernel_rfl) rfl (fun x y q=>C174_vc x.1 x.2 y q)
theorem f174_in : InP 174 := inP (by kernel_rfl)
def f152 (op:Int) (a : LI×LI) (k:Int) : Option (Int×LI×LI) :=
 bif (op == (5:Int)) then
 bindF (f166 (a.1,a.2) k) fun r1 =>
 some (r1.1,r1.2.1,r1.2.2)
 else
 bif (op == (7:Int)) then
 bindF (f168 (a.1,a.2)) fun r2 =>
 some (r2.1,r2.2.1,r2.2.2)
 else
 bif (op == (8:Int)) then
 bindF (f201 (a.1,a.2) k) fun r3 =>
 some (r3.1,r3.2.1,r3.2.2)
 else
 bif (op == (9:Int)) then
 bindF (f203 (a.1,a.2)) fun r4 =>
 bindF (f202 r4.1 r4.2) fun r5 =>
 some (r5.1,r5.2.1,r5.2.2)
 else
 bif (op == (10:Int)) then
 bindF (f204 (a.1,a.2)) fun r6 =>
 bindF (f202 r6.1 r6.2) fun r7 =>
 some (r7.1,r7.2.1,r7.2.2)
 else
 bif (op == (11:Int)) then
 bindF (f205 k (a.1,a.2)) fun r8 =>
 some (r8.1,r8.2.1,r8.2.2)
 else
 bif (op == (13:Int)) then
 bindF (f206 (a.1,a.2) k) fun r9 =>
 some (r9.1,r9.2.1,r9.2.2.1)
 else
 bindF (f174 (a.1,a.2) ([(List.length a.2:Int)])) fun r10 =>
 some (r10.1,r10.2.1,r10.2.2)
def C152 : Con where
 X := Int×(LI×LI)×Int
 Y := Int×LI×LI
 e := 0
 args x := [.dat T2 x.1,.dat T3 x.2.1,.dat T2 x.2.2]
 hin x := []
 F x := f152 x.1 x.2.1 x.2.2
 ret y := [.raw true [(.osl 0),(.osl 1)],.dat T2 y.1]
 hout y := [(0,.arr 3 T2 y.2.1),(1,.arr 40 T2 y.2.2)]
 nout := 2
theorem C152_vc (op:Int) (a : LI×LI) (k:Int) (y : Int×LI×LI) (q : f152 op a k = some y) : VC Tryz.f152 C152 (op,a,k) y := by
 unfold f152 at q
 refine OL (OL (OL (OL (cI q (fun q=>?_) (fun q=>?_)))))
 ·refine OL ?_
  obtain ⟨r1,hr1,q⟩ := bE q
  refine OL (AI f166_in (cV (cQ C166 ((a.1,a.2),k) r1 [] false C166_holds hr1 rfl rfl (R3 (K0 (OL ?_))))))
  cases sE q
  refine AI rfl (E4 [(0,some 2),(1,some 3)] (R2 (AJ (R2 TV))))
 refine OL (cI q (fun q=>?_) (fun q=>?_))
 ·refine OL ?_
  obtain ⟨r2,hr2,q⟩ := bE q
  refine OL (AI f168_in (cV (cQ C168 (a.1,a.2) r2 [] false C168_holds hr2 rfl rfl (R2 (K0 (OL ?_))))))
  cases sE q
  refine AI rfl (E4 [(0,some 2),(1,some 3)] (R2 (AJ (R2 TV))))
 refine OL (cI q (fun q=>?_) (fun q=>?_))
 ·refine OL ?_
  obtain ⟨r3,hr3,q⟩ := bE q
  refine OL (AI f201_in (cV (cQ C201 ((a.1,a.2),k) r3 [] false C201_holds hr3 rfl rfl (R3 (K0 (OL ?_))))))
  cases sE q
  refine AI rfl (E4 [(0,some 2),(1,some 3)] (R2 (AJ (R2 TV))))
 refine OL (cI q (fun q=>?_) (fun q=>?_))
 ·refine OL ?_
  obtain ⟨r4,hr4,q⟩ := bE q
  refine OL (AI f203_in (cV (cQ C203 (a.1,a.2) r4 [] false C203_holds hr4 rfl rfl (R2 (K0 ?_)))))
  obtain ⟨r5,hr5,q⟩ := bE q
  refine OL (AI f202_in (cV (cQ C202 (r4.1,r4.2) r5 [] false C202_holds hr5 rfl rfl (R2 (K0 (OL ?_))))))
  cases sE q
  refine AI rfl (E4 [(0,some 2),(1,some 3)] (R2 (AJ (R2 TV))))
 refine OL (cI q (fun q=>?_) (fun q=>?_))
 ·refine OL ?_
  obtain ⟨r6,hr6,q⟩ := bE q
  refine OL (AI f204_in (cV (cQ C204 (a.1,a.2) r6 [] false C204_holds hr6 rfl rfl (R2 (K0 ?_)))))
  obtain ⟨r7,hr7,q⟩ := bE q
  refine OL (AI f202_in (cV (cQ C202 (r6.1,r6.2) r7 [] false C202_holds hr7 rfl rfl (R2 (K0 (OL ?_))))))
  cases sE q
  refine AI rfl (E4 [(0,some 2),(1,some 3)] (R2 (AJ (R2 TV))))
 refine OL (cI q (fun q=>?_) (fun q=>?_))
 ·refine OL ?_
  obtain ⟨r8,hr8,q⟩ := bE q
  refine OL (AI f205_in (cV (cQ C205 (k,(a.1,a.2)) r8 [] false C205_holds hr8 rfl rfl (R3 (K0 (OL ?_))))))
  cases sE q
  refine AI rfl (E4 [(0,some 2),(1,some 3)] (R2 (AJ (R2 TV))))
 refine OL (cI q (fun q=>?_) (fun q=>?_))
 ·refine OL ?_
  obtain ⟨r9,hr9,q⟩ := bE q
  refine OL (AI f206_in (cV (cQ C206 ((a.1,a.2),k) r9 [] false C206_holds hr9 rfl rfl (R3 (K0 (OL (OL (OL ?_))))))))
  cases sE q
  refine AI rfl (E4 [(0,some 2),(1,some 3)] (R2 (AJ (R2 TV))))
 refine OL (OL ?_)
 obtain ⟨r10,hr10,q⟩ := bE q
 refine OL (AI f174_in (cV (cQ C174 ((a.1,a.2),[(List.length a.2:Int)]) r10 [] true C174_holds hr10 rfl rfl (R3 (AI (fun _=>rfl) (R2 (AI TV (AI TV (OL ?_)))))))))
 cases sE q
 refine AI rfl (E4 [(0,some 3),(1,some 4)] (R2 (AJ (R2 TV))))
theorem C152_holds : HP C152 152 := hH Tryz.f152 (by kernel_rfl) rfl (fun x y q=>C152_vc x.1 x.2.1 x.2.2 y q)
theorem f152_in : InP 152 := inP (by kernel_rfl)
def f104_j1 (t_l : NL) (op:Int) (a:Int) (b:Int) : Option (Sum NL (Int×NL)) :=
 bif (decide ((List.length t_l:Int) ≥ (512:Int))) then
 some (Sum.inr ((2:Int),t_l))
 else
 bif (decide (op < (2:Int))) then
 some (Sum.inr ((1:Int),t_l))
 else
 bif (decide (op > (14:Int))) then
 some (Sum.inr ((1:Int),t_l))
 else
 bindF (f72 t_l a) fun r5 =>
 bif (!r5.1) then
 some (Sum.inr ((1:Int),r5.2))
 else
 bindF (f149 op) fun r6 =>
 bif r6 then
 bindF (f72 r5.2 b) fun r7 =>
 bif (!r7.1) then
 some (Sum.inr ((1:Int),r7.2))
 else
 some (Sum.inl r7.2)
 else
 some (Sum.inl r5.2)
def f104_j2 (op:Int) (k:Int) : Option Int :=
 bindF (f150 op) fun r10 =>
 bif r10 then
 some k
 else
 some (0:Int)
def f104_j3 (op:Int) (a:Int) (b:Int) (k:Int) (z4a : NL) : Option (Int×Int×LI×LI) :=
 bindF (f149 op) fun r13 =>
 bif r13 then
 guardF (0 ≤ a ∧ a < (List.length z4a:Int)) <|
 guardF (0 ≤ b ∧ b < (List.length z4a:Int)) <|
 bindF (f151 op ((((((rd (Ty.z T0) z4a a).2).2).2).2).1,(((((rd (Ty.z T0) z4a a).2).2).2).2).2) ((((((rd (Ty.z T0) z4a b).2).2).2).2).1,(((((rd (Ty.z T0) z4a b).2).2).2).2).2) k) fun q11_18 =>
 some (q11_18.1,b,q11_18.2.1,q11_18.2.2)
 else
 guardF (0 ≤ a ∧ a < (List.length z4a:Int)) <|
 bindF (f152 op ((((((rd (Ty.z T0) z4a a).2).2).2).2).1,(((((rd (Ty.z T0) z4a a).2).2).2).2).2) k) fun q11_24 =>
 some (q11_24.1,(-1:Int),q11_24.2.1,q11_24.2.2)
def f104 (t_l : NL) (op:Int) (a:Int) (b:Int) (k:Int) : Option (Int×Int×NL) :=
 bindF (f104_j1 t_l op a b) fun z4 =>
 sumF z4 (fun z4a =>
 bindF (f104_j2 op k) fun z9 =>
 bindF (f104_j3 op a b k z4a) fun z12 =>
 bif (z12.1 != (0:Int)) then
 some ((0:Int),z12.1,z4a)
 else
 bindF (f60 z4a (op,a,z12.2.1,z9,z12.2.2.1,z12.2.2.2)) fun r14 =>
 some (r14.1,(0:Int),r14.2)) (fun z4b =>
 some ((0:Int),z4b.1,z4b.2))
def C104 : Con where
 X := NL×Int×Int×Int×Int
 Y := Int×Int×NL
 e := 2
 args x := [P0 0 0,.dat T2 x.2.1,.dat T2 x.2.2.1,.dat T2 x.2.2.2.1,.dat T2 x.2.2.2.2]
 hin x := [(0,.cells [(.osl 1)]),(1,.arr 42 T0 x.1)]
 F x := f104 x.1 x.2.1 x.2.2.1 x.2.2.2.1 x.2.2.2.2
 ret y := [.dat T2 y.1,.dat T2 y.2.1]
 hout y := [(0,.cells [(.osl 2)]),(2,.arr 42 T0 y.2.2)]
 nout := 3
theorem C104_vc (t_l : NL) (op:Int) (a:Int) (b:Int) (k:Int) (y : Int×Int×NL) (q : f104 t_l op a b k = some y) : VE Tryz.f104 2 C104 (t_l,op,a,b,k) y := by
 unfold f104 at q
 refine OL ?_
 obtain ⟨z4,hz4,q⟩ := bE q
 refine OQ ⟨Sum.elim (fun z4a=>[(0,⟨[(0,P0 0 0),(1,.dat T2 op),(2,.dat T2 a),(3,.dat T2 b),(4,.dat T2 k)],[(0,.cells [(.osl 1)]),(1,.arr 42 T0 z4a)],2⟩)]) (fun z4b=>[(1,⟨[(10,D0 0),(11,.dat T2 z4b.1)],[(0,.cells [(.osl 1)]),(1,.arr 42 T0 z4b.2)],2⟩)]) z4,?_,?_⟩
 ·have q := hz4
  clear hz4
  unfold f104_j1 at q
  refine OL (cI q (fun q=>?_) (fun q=>?_))
  ·cases sE q
   refine OL (E4 I2 (R3 (AI TV (R2 TV))))
  refine OL (cN q (fun q=>?_) (fun q=>?_))
  ·refine gY (cF (cN q (fun q=>?_) (fun q=>?_)))
   ·refine gY (gY ?_)
    obtain ⟨r5,hr5,q⟩ := bE q
    refine OL (AI f72_in (cV (cQ C72 (t_l,a) r5 I2 false C72_holds hr5 rfl rfl (AI rfl (AI NH (R2 (AJ (AI (R2 TV) (gY (cF (cN q (fun q=>?_) (fun q=>?_))))))))))))
    ·refine gY ?_
     obtain ⟨r6,hr6,q⟩ := bE q
     refine OL (AI f149_in (cV (cQ C149 op r6 [] false C149_holds hr6 rfl rfl (AI rfl (K0 (gY (cI q (fun q=>?_) (fun q=>?_))))))))
     ·refine gX (gX ?_)
      obtain ⟨r7,hr7,q⟩ := bE q
      refine OL (AI f72_in (cV (cQ C72 (r5.2,b) r7 I2 false C72_holds hr7 rfl rfl (AI rfl (AI NH (R2 (AJ (AI (R2 TV) (gX (gY (cT (cF (cI q (fun q=>?_) (fun q=>?_))))))))))))))
      ·cases sE q
       refine OL (E4 I2 (R3 (AI TV (R2 TV))))
      cases sE q
      refine E4 I2 (R5 (AJ (R2 TV)))
     refine gM (gM (gM (gY (cF (cF (cF ?_))))))
     cases sE q
     refine E4 I2 (R5 (AJ (R2 TV)))
    refine gN (gN (gN (cT (cT (OL ?_)))))
    cases sE q
    refine E4 I2 (R3 (AI TV (R2 TV)))
   refine gN (gN (gN (cT (gN (gN (gN (gN (cT (cT (OL ?_))))))))))
   cases sE q
   refine E4 I2 (R3 (AI TV (R2 TV)))
  refine gN (cT (gN (gN (gN (gN (cT (gN (gN (gN (gN (cT (cT (OL ?_)))))))))))))
  cases sE q
  refine E4 I2 (R3 (AI TV (R2 TV)))
 rcases z4 with z4a | z4b
 ·dsimp only [sumF] at q
  refine AI (OL (OL ?_)) TV
  obtain ⟨z9,hz9,q⟩ := bE q
  refine OQ ⟨[(0,⟨[(0,P0 0 0),(1,.dat T2 op),(2,.dat T2 a),(3,.dat T2 b),(4,.dat T2 k),(12,P0 2 0)],[(0,.cells [(.osl 1)]),(1,.arr 42 T0 z4a),(2,.cells [(.d T2 op),(.d T2 a),(.d T2 (-1:Int)),(.d T2 z9),N0,N0])],3⟩)],?_,?_⟩
  ·have q := hz9
   clear hz9
   unfold f104_j2 at q
   refine OL ?_
   obtain ⟨r10,hr10,q⟩ := bE q
   refine OL (AI f150_in (cV (cQ C150 op r10 [] false C150_holds hr10 rfl rfl (AI rfl (K0 (cI q (fun q=>?_) (fun q=>?_)))))))
   ·cases sE q
    refine OL (E4 I3 (R5 (AI (R2 TV) (R3 TV))))
   cases sE q
   refine E4 I3 (R5 (AI (R2 TV) (R3 TV)))
  refine AI (OL ?_) TV
  obtain ⟨z12,hz12,q⟩ := bE q
  refine OQ ⟨[(0,⟨[(0,P0 0 0),(12,P0 2 0),(13,.dat T2 z12.1)],[(0,.cells [(.osl 1)]),(1,.arr 42 T0 z4a),(2,.cells [(.d T2 op),(.d T2 a),(.d T2 z12.2.1),(.d T2 z9),(.osl 3),(.osl 4)]),(3,.arr 3 T2 z12.2.2.1),(4,.arr 40 T2 z12.2.2.2)],5⟩)],?_,?_⟩
  ·have q := hz12
   clear hz12
   unfold f104_j3 at q
   refine OL ?_
   obtain ⟨r13,hr13,q⟩ := bE q
   refine OL (AI f149_in (cV (cQ C149 op r13 [] false C149_holds hr13 rfl rfl (AI rfl (K0 (cI q (fun q=>?_) (fun q=>?_)))))))
   ·refine OL (OL (EI (.take 0 (.take 1 (.take 2 (.take 3 (.take 4 (.take 5 (.take 6 (.take 7 (.take 8 (.take 9 (.take 10 (.take 11 (.take 12 (.take 13 (.take 14 (.take 15 (.take 16 (.take 17 (.alt 18 (.take 19 (.take 20 (.take 21 (.take 22 (.alt 23 (.take 24 .done) .done))))) .done))))))))))))))))))) (EI [] (EI [] (AI rfl (gI q (fun q=>?_)))))))
    refine gI q (fun q=>?_)
    refine AI TV ?_
    obtain ⟨q11_18,hq11_18,q⟩ := bE q
    refine OL (AI f151_in (cV (cQ C151 (op,((((((rd (Ty.z T0) z4a a).2).2).2).2).1,(((((rd (Ty.z T0) z4a a).2).2).2).2).2),((((((rd (Ty.z T0) z4a b).2).2).2).2).1,(((((rd (Ty.z T0) z4a b).2).2).2).2).2),k) q11_18 [] false C151_holds hq11_18 rfl rfl (R6 (K0 (AI TV (OL ?_)))))))
    cases sE q
    refine E4 I5 (R2 (AI (R2 TV) (R5 TV)))
   refine gI q (fun q=>?_)
   obtain ⟨q11_24,hq11_24,q⟩ := bE q
   refine OL (AI f152_in (cV (cQ C152 (op,((((((rd (Ty.z T0) z4a a).2).2).2).2).1,(((((rd (Ty.z T0) z4a a).2).2).2).2).2),k) q11_24 [] false C152_holds hq11_24 rfl rfl (R4 (K0 (OL ?_))))))
   cases sE q
   refine E4 I5 (R2 (AI (R2 TV) (R5 TV)))
  refine AI (OL (OL (cI q (fun q=>?_) (fun q=>?_)))) TV
  ·cases sE q
   refine OL (AI rfl (E4 [(0,some 0),(2,some 1)] (R3 (AI TV (R2 TV)))))
  refine OL ?_
  obtain ⟨r14,hr14,q⟩ := bE q
  refine OL (AI f60_in (cV (cQ C60 (z4a,(op,a,z12.2.1,z9,z12.2.2.1,z12.2.2.2)) r14 I2 false C60_holds hr14 rfl rfl (R2 (AI NH (R2 (AJ (AI (R2 TV) ?_))))))))
  cases sE q
  refine AI rfl (E4 [(0,some 0),(2,some 7)] (R3 (AI TV (R2 TV))))
 dsimp only [sumF] at q
 refine AI ?_ TV
 cases sE q
 refine AI rfl (E4 [(0,some 0),(2,some 1)] (R3 (AI TV (R2 TV))))
theorem C104_holds : HP C104 104 := hH Tryz.f104 (by kernel_rfl) rfl (fun x y q=>C104_vc x.1 x.2.1 x.2.2.1 x.2.2.2.1 x.2.2.2.2 y q)
theorem f104_in : InP 104 := inP (by kernel_rfl)
def f65 (s_t_l : NL) (s_was:Int) (s_e:Int) (op:Int) (a:Int) (b:Int) (k:Int) : Option (Int×Int×Int×NL) :=
 bif (s_e != (0:Int)) then
 some ((0:Int),s_was,s_e,s_t_l)
 else
 bindF (f104 s_t_l op a b k) fun r1 =>
 some (r1.1,s_was,r1.2.1,r1.2.2)
def C65 : Con where
 X := NL×Int×Int×Int×Int×Int×Int
 Y := Int×Int×Int×NL
 e := 3
 args x := [P0 0 0,.dat T2 x.2.2.2.1,.dat T2 x.2.2.2.2.1,.dat T2 x.2.2.2.2.2.1,.dat T2 x.2.2.2.2.2.2]
 hin x := [(0,.cells [(.ptr 1 0),(.d T2 x.2.1),(.d T2 x.2.2.1)]),(1,.cells [(.osl 2)]),(2,.arr 42 T0 x.1)]
 F x := f65 x.1 x.2.1 x.2.2.1 x.2.2.2.1 x.2.2.2.2.1 x.2.2.2.2.2.1 x.2.2.2.2.2.2
 ret y := [.dat T2 y.1]
 hout y := [(0,.cells [(.ptr 1 0),(.d T2 y.2.1),(.d T2 y.2.2.1)]),(1,.cells [(.osl 3)]),(3,.arr 42 T0 y.2.2.2)]
 nout := 4
theorem C65_vc (s_t_l : NL) (s_was:Int) (s_e:Int) (op:Int) (a:Int) (b:Int) (k:Int) (y : Int×Int×Int×NL) (q : f65 s_t_l s_was s_e op a b k = some y) : VE Tryz.f65 3 C65 (s_t_l,s_was,s_e,op,a,b,k) y := by
 unfold f65 at q
 refine OL (OL (OL (cI q (fun q=>?_) (fun q=>?_))))
 ·cases sE q
  refine OL (AI rfl (E4 [(0,some 0),(1,some 1),(3,some 2)] (R2 (AI TV (R3 TV)))))
 refine OL ?_
 obtain ⟨r1,hr1,q⟩ := bE q
 refine OL (AI f104_in (cV (cQ C104 (s_t_l,op,a,b,k) r1 [(0,some 1),(1,some 2)] false C104_holds hr1 rfl rfl (R4 (AI NH (R2 (AJ (AI (R2 TV) (OL (OL (OL ?_)))))))))))
 cases sE q
 refine AI rfl (E4 [(0,some 0),(1,some 1),(3,some 5)] (R2 (AI TV (R3 TV))))
theorem C65_holds : HP C65 65 := hH Tryz.f65 (by kernel_rfl) rfl (fun x y q=>C65_vc x.1 x.2.1 x.2.2.1 x.2.2.2.1 x.2.2.2.2.1 x.2.2.2.2.2.1 x.2.2.2.2.2.2 y q)
theorem f65_in : InP 65 := inP (by kernel_rfl)
def f105 (t_l : NL) (n:Int) : Option NL :=
 none
def C105 : Con where
 X := NL×Int
 Y := NL
 e := 2
 args x := [P0 0 0,.dat T2 x.2]
 hin x := [(0,.cells [(.osl 1)]),(1,.arr 42 T0 x.1)]
 F x := f105 x.1 x.2
 ret y := []
 hout y := [(0,.cells [(.osl 2)]),(2,.arr 42 T0 y)]
 nout := 3
theorem C105_vc (t_l : NL) (n:Int) (y : NL) (q : f105 t_l n = some y) : VE Tryz.f105 2 C105 (t_l,n) y := by
 unfold f105 at q
 exact nomatch q
theorem C105_holds : HP C105 105 := hH Tryz.f105 (by kernel_rfl) rfl (fun x y q=>C105_vc x.1 x.2 y q)
theorem f105_in : InP 105 := inP (by kernel_rfl)
def f67 (s_t_l : NL) (s_was:Int) (s_e:Int) (n:Int) : Option (Int×Int×Int×Int×NL) :=
 bif (s_e != (0:Int)) then
 bindF (f105 s_t_l s_was) fun q2_8 =>
 some ((0:Int),s_e,s_was,s_e,q2_8)
 else
 some (n,(0:Int),s_was,s_e,s_t_l)
def C67 : Con where
 X := NL×Int×Int×Int
 Y := Int×Int×Int×Int×NL
 e := 3
 args x := [P0 0 0,.dat T2 x.2.2.2]
 hin x := [(0,.cells [(.ptr 1 0),(.d T2 x.2.1),(.d T2 x.2.2.1)]),(1,.cells [(.osl 2)]),(2,.arr 42 T0 x.1)]
 F x := f67 x.1 x.2.1 x.2.2.1 x.2.2.2
 ret y := [.dat T2 y.1,.dat T2 y.2.1]
 hout y := [(0,.cells [(.ptr 1 0),(.d T2 y.2.2.1),(.d T2 y.2.2.2.1)]),(1,.cells [(.osl 3)]),(3,.arr 42 T0 y.2.2.2.2)]
 nout := 4
theorem C67_vc (s_t_l : NL) (s_was:Int) (s_e:Int) (n:Int) (y : Int×Int×Int×Int×NL) (q : f67 s_t_l s_was s_e n = some y) : VE Tryz.f67 3 C67 (s_t_l,s_was,s_e,n) y := by
 unfold f67 at q
 refine OL (OL (OL (cI q (fun q=>?_) (fun q=>?_))))
 ·refine OL (EI (.take 0 (.take 1 (.take 2 (.take 3 (.take 4 (.take 5 (.take 6 (.take 7 (.alt 8 .done .done))))))))) (EI [] (EI [] (AI rfl (AI TV ?_)))))
  obtain ⟨q2_8,hq2_8,q⟩ := bE q
  refine OL (AI f105_in (cV (cQ C105 (s_t_l,s_was) q2_8 [(0,some 1),(1,some 2)] false C105_holds hq2_8 rfl rfl (AI rfl (AI NH (R2 (AJ (AI (R2 TV) (OL (EI (.take 0 (.take 1 (.take 2 (.take 3 (.take 4 (.take 5 .done)))))) (EI [] (EI [] (AI rfl ?_)))))))))))))
  cases sE q
  refine AI rfl (E4 [(0,some 0),(1,some 1),(3,some 5)] (R3 (AI TV (R3 TV))))
 cases sE q
 refine OL (AI rfl (E4 [(0,some 0),(1,some 1),(3,some 2)] (R3 (AI TV (R3 TV)))))
theorem C67_holds : HP C67 67 := hH Tryz.f67 (by kernel_rfl) rfl (fun x y q=>C67_vc x.1 x.2.1 x.2.2.1 x.2.2.2 y q)
theorem f67_in : InP 67 := inP (by kernel_rfl)
def f20 (t_l : NL) (out:Int) (want : LI) : Option (Int×Int×NL) :=
 bindF (f63 t_l out want) fun r1 =>
 bif (r1.1 != (0:Int)) then
 some ((0:Int),r1.1,r1.2)
 else
 bindF (f64 r1.2) fun r2 =>
 bindF (f66 r2.2 r2.1 (0:Int) want) fun r3 =>
 bindF (f65 r3.2.2.2 r3.2.1 r3.2.2.1 (3:Int) out r3.1 (0:Int)) fun r4 =>
 bindF (f65 r4.2.2.2 r4.2.1 r4.2.2.1 (4:Int) r4.1 r4.1 (0:Int)) fun r5 =>
 bindF (f65 r5.2.2.2 r5.2.1 r5.2.2.1 (10:Int) r5.1 (0:Int) (0:Int)) fun r6 =>
 bindF (f67 r6.2.2.2 r6.2.1 r6.2.2.1 r6.1) fun r7 =>
 some (r7.1,r7.2.1,r7.2.2.2.2)
def C20 : Con where
 X := NL×Int×LI
 Y := Int×Int×NL
 e := 2
 args x := [P0 0 0,.dat T2 x.2.1,.dat T1 x.2.2]
 hin x := [(0,.cells [(.osl 1)]),(1,.arr 42 T0 x.1)]
 F x := f20 x.1 x.2.1 x.2.2
 ret y := [.dat T2 y.1,.dat T2 y.2.1]
 hout y := [(0,.cells [(.osl 2)]),(2,.arr 42 T0 y.2.2)]
 nout := 3
theorem C20_vc (t_l : NL) (out:Int) (want : LI) (y : Int×Int×NL) (q : f20 t_l out want = some y) : VE Tryz.f20 2 C20 (t_l,out,want) y := by
 unfold f20 at q
 refine OL (OL (OL ?_))
 obtain ⟨r1,hr1,q⟩ := bE q
 refine OL (AI f63_in (cV (cQ C63 (t_l,out,want) r1 I2 false C63_holds hr1 rfl rfl (R2 (AI NH (R2 (AJ (AI (R2 TV) (OL (cI q (fun q=>?_) (fun q=>?_)))))))))))
 ·cases sE q
  refine OL (AI rfl (E4 [(0,some 0),(2,some 1)] (R3 (AI TV (R2 TV)))))
 refine OL ?_
 obtain ⟨r2,hr2,q⟩ := bE q
 refine OL (AI f64_in (cV (cQ C64 r1.2 r2 I2 false C64_holds hr2 rfl rfl (AI NH (R2 (AJ (AI (R2 TV) (OL ?_))))))))
 obtain ⟨r3,hr3,q⟩ := bE q
 refine OL (AI f66_in (cV (cQ C66 (r2.2,r2.1,(0:Int),want) r3 [(0,some 6),(1,some 0),(2,some 1)] false C66_holds hr3 rfl rfl (AI rfl (AI NH (R2 (AJ (AI (R3 TV) ?_))))))))
 obtain ⟨r4,hr4,q⟩ := bE q
 refine OL (AI f65_in (cV (cQ C65 (r3.2.2.2,r3.2.1,r3.2.2.1,(3:Int),out,r3.1,(0:Int)) r4 [(0,some 6),(1,some 0),(2,some 10)] false C65_holds hr4 rfl rfl (R4 (AI NH (R2 (AJ (AI (R3 TV) (OL ?_)))))))))
 obtain ⟨r5,hr5,q⟩ := bE q
 refine OL (AI f65_in (cV (cQ C65 (r4.2.2.2,r4.2.1,r4.2.2.1,(4:Int),r4.1,r4.1,(0:Int)) r5 [(0,some 6),(1,some 0),(2,some 14)] false C65_holds hr5 rfl rfl (R4 (AI NH (R2 (AJ (AI (R3 TV) ?_))))))))
 obtain ⟨r6,hr6,q⟩ := bE q
 refine OL (AI f65_in (cV (cQ C65 (r5.2.2.2,r5.2.1,r5.2.2.1,(10:Int),r5.1,(0:Int),(0:Int)) r6 [(0,some 6),(1,some 0),(2,some 18)] false C65_holds hr6 rfl rfl (R4 (AI NH (R2 (AJ (AI (R3 TV) ?_))))))))
 obtain ⟨r7,hr7,q⟩ := bE q
 refine OL (AI f67_in (cV (cQ C67 (r6.2.2.2,r6.2.1,r6.2.2.1,r6.1) r7 [(0,some 6),(1,some 0),(2,some 22)] false C67_holds hr7 rfl rfl (AI rfl (AI NH (R2 (AJ (AI (R3 TV) ?_))))))))
 cases sE q
 refine AI rfl (E4 [(0,some 0),(2,some 26)] (R3 (AI TV (R2 TV))))
theorem C20_holds : HP C20 20 := hH Tryz.f20 (by kernel_rfl) rfl (fun x y q=>C20_vc x.1 x.2.1 x.2.2 y q)
theorem f20_in : InP 20 := inP (by kernel_rfl)
def f15 : Option Bool :=
 bindF (f16) fun r1 =>
 bindF (f18 ([(12884901888:Int)])) fun r2 =>
 bindF (f17 ([]) (r2.2,r2.1)) fun r3 =>
 bindF (f20 r3.2.2 r3.1 ([(4294967296:Int)])) fun r4 =>
 bindF (f58 r4.2.2 r4.1) fun r5 =>
 bif (r4.2.1 == (0:Int)) then
 bif r5.1 then
 bif ((List.length r5.2.2.1:Int) == (1:Int)) then
 guardF (0 ≤ (0:Int) ∧ (0:Int) < (List.length r5.2.2.1:Int)) <|
 some ((rd (0:Int) r5.2.2.1 (0:Int)) == (17179869184:Int))
 else
 some false
 else
 some false
 else
 some false
def C15 : Con where
 X := Unit
 Y := Bool
 e := 0
 args x := []
 hin x := []
 F x := f15
 ret y := [.dat .bool y]
 hout y := []
 nout := 0
theorem C15_vc (y : Bool) (q : f15 = some y) : VC Tryz.f15 C15 () y := by
 unfold f15 at q
 refine OL (OL ?_)
 obtain ⟨r1,hr1,q⟩ := bE q
 refine OL (AI f16_in (cV (cQ C16 () r1 [] false C16_holds hr1 rfl rfl (K0 (OL (OL ?_))))))
 obtain ⟨r2,hr2,q⟩ := bE q
 refine OL (AI f18_in (cV (cQ C18 [(12884901888:Int)] r2 [] false C18_holds hr2 rfl rfl (AI rfl (K0 ?_)))))
 obtain ⟨r3,hr3,q⟩ := bE q
 refine OL (AI f17_in (cV (cQ C17 ([],(r2.2,r2.1)) r3 I2 false C17_holds hr3 rfl rfl (R2 (AI NH (R2 (AJ (AI (R2 TV) (OL (OL ?_))))))))))
 obtain ⟨r4,hr4,q⟩ := bE q
 refine OL (AI f20_in (cV (cQ C20 (r3.2.2,r3.1,[(4294967296:Int)]) r4 [(0,some 0),(1,some 6)] false C20_holds hr4 rfl rfl (R2 (AI NH (R2 (AJ (AI (R2 TV) (OL ?_)))))))))
 obtain ⟨r5,hr5,q⟩ := bE q
 refine OL (AI f58_in (cV (cQ C58 (r4.2.2,r4.1) r5 [(0,some 0),(1,some 10)] false C58_holds hr5 rfl rfl (AI rfl (AI NH (R2 (AJ (AI (R2 TV) (OL (OL (cI q (fun q=>?_) (fun q=>?_))))))))))))
 ·refine cT (cI q (fun q=>?_) (fun q=>?_))
  ·refine gX (gX (gX (cT (cI q (fun q=>?_) (fun q=>?_)))))
   ·refine gX (gX (gI q (fun q=>?_)))
    refine gX (gX (cT ?_))
    cases sE q
    refine AI rfl (E4 [] (R2 (AI TV TV)))
   refine gM (gM (gM (gM (cF ?_))))
   cases sE q
   refine AI rfl (E4 [] (R2 (AI TV TV)))
  refine gM (gM (gM (cF (gM (gM (gM (gM (gM (cF ?_)))))))))
  cases sE q
  refine AI rfl (E4 [] (R2 (AI TV TV)))
 refine cF (gM (gM (gM (gM (cF (gM (gM (gM (gM (gM (cF ?_)))))))))))
 cases sE q
 refine AI rfl (E4 [] (R2 (AI TV TV)))
theorem C15_holds : HP C15 15 := hH Tryz.f15 (by kernel_rfl) rfl (fun x y q=>C15_vc y q)
theorem f15_in : InP 15 := inP (by kernel_rfl)
def f102_j4 (d : LI) (i:Int) : Option (Sum Unit Unit) :=
 guardF (0 ≤ i ∧ i < (List.length d:Int)) <|
 bif (decide ((rd (0:Int) d i) < (1:Int))) then
 some (Sum.inr ())
 else
 guardF (0 ≤ i ∧ i < (List.length d:Int)) <|
 bif (decide ((rd (0:Int) d i) > (4096:Int))) then
 some (Sum.inr ())
 else
 some (Sum.inl ())
def f102_l3 (d : LI) (go : (Int×Int) → Option (Sum Unit Unit)) (n:Int) (i:Int) : Option (Sum Unit Unit) :=
 bif (decide (i < (List.length d:Int))) then
 bindF (f102_j4 d i) fun z4 =>
 sumF z4 (fun z4a =>
 guardF (0 ≤ i ∧ i < (List.length d:Int)) <|
 bif (decide ((i64.wrap (n * (rd (0:Int) d i))) > (4096:Int))) then
 some (Sum.inl ())
 else
 go ((i64.wrap (n * (rd (0:Int) d i))),(i64.wrap (i + (1:Int))))) (fun z4b =>
 some (Sum.inl ()))
 else
 some (Sum.inr ())
def f102 (d : LI) : Option Bool :=
 bif (decide ((List.length d:Int) > (4:Int))) then
 some false
 else
 bindF (loopF (fun go x=>f102_l3 d go x.1 x.2) fuelN ((1:Int),(0:Int))) fun z3 =>
 sumF z3 (fun z3a =>
 some false) (fun z3b =>
 some true)
def C102 : Con where
 X := LI
 Y := Bool
 e := 0
 args x := [.dat T1 x]
 hin x := []
 F x := f102 x
 ret y := [.dat .bool y]
 hout y := []
 nout := 0
theorem C102_vc (d : LI) (y : Bool) (q : f102 d = some y) : VC Tryz.f102 C102 d y := by
 unfold f102 at q
 refine OL (OL (OL (cI q (fun q=>?_) (fun q=>?_))))
 ·cases sE q
  refine OL (AI rfl (E4 [] (R2 (AI TV TV))))
 refine OL (OL (OL ?_))
 obtain ⟨z3,hz3,q⟩ := bE q
 refine lI (Int×Int) (Sum Unit Unit) (fun x=>⟨[(0,.dat T1 d),(3,.dat T2 x.1),(4,.dat T2 x.2)],[],0⟩) (fun z=>Sum.elim (fun za=>[(1,⟨[(2,.dat .bool false)],[],0⟩)]) (fun zb=>[(2,⟨[],[],0⟩)]) z) (loopF (fun go x=>f102_l3 d go x.1 x.2)) fuelN ((1:Int),(0:Int)) z3 (AI hz3 (AI (E4 [] (R4 (AI TV TV))) (AI (fun _ _ h=>lZ h) (AI (fun m=>curI (fun n=>fun i z q=>?_)) ?_))))
 ·have q : f102_l3 d (loopF (fun go x=>f102_l3 d go x.1 x.2) m) n i = some z := q
  unfold f102_l3 at q
  refine OL (OL (cI q (fun q=>?_) (fun q=>?_)))
  ·refine OL ?_
   obtain ⟨z4,hz4,q⟩ := bE q
   refine OQ ⟨Sum.elim (fun z4a=>[(0,⟨[(0,.dat T1 d),(3,.dat T2 n),(4,.dat T2 i)],[],0⟩)]) (fun z4b=>[(1,⟨[(2,.dat .bool false)],[],0⟩)]) z4,?_,?_⟩
   ·have q := hz4
    clear hz4
    unfold f102_j4 at q
    refine OL (gI q (fun q=>?_))
    refine cN q (fun q=>?_) (fun q=>?_)
    ·refine gY (gY (gI q (fun q=>?_)))
     refine gY (gY (cF (cI q (fun q=>?_) (fun q=>?_))))
     ·cases sE q
      refine OL (E4 [] (R2 (AI TV TV)))
     cases sE q
     refine E4 [] (R4 (AI TV TV))
    refine gN (gN (gN (gN (cT (cT (OL ?_))))))
    cases sE q
    refine E4 [] (R2 (AI TV TV))
   rcases z4 with z4a | z4b
   ·dsimp only [sumF] at q
    refine AI (OL (gI q (fun q=>?_))) TV
    refine OL (cI q (fun q=>?_) (fun q=>?_))
    ·cases sE q
     refine OL (E4 [] (R2 (AI TV TV)))
    refine EI ((i64.wrap (n * (rd (0:Int) d i))),(i64.wrap (i + (1:Int)))) (AI q (E4 [] (R4 (AI TV TV))))
   dsimp only [sumF] at q
   refine AI ?_ TV
   cases sE q
   refine E4 [] (R2 (AI TV TV))
  cases sE q
  refine E4 [] (AI rfl (AI TV TV))
 rcases z3 with z3a | z3b
 ·dsimp only [sumF] at q
  refine AI ?_ TV
  cases sE q
  refine AI rfl (E4 [] (R2 (AI TV TV)))
 dsimp only [sumF] at q
 refine AI (OL ?_) TV
 cases sE q
 refine AI rfl (E4 [] (R2 (AI TV TV)))
theorem C102_holds : HP C102 102 := hH Tryz.f102 (by kernel_rfl) rfl (fun x y q=>C102_vc x y q)
theorem f102_in : InP 102 := inP (by kernel_rfl)
def f103_l1 (d : LI) (go : (Int×Int) → Option Int) (n:Int) (i:Int) : Option Int :=
 bif (decide (i < (List.length d:Int))) then
 guardF (0 ≤ i ∧ i < (List.length d:Int)) <|
 go ((i64.wrap (n * (rd (0:Int) d i))),(i64.wrap (i + (1:Int))))
 else
 some n
def f103 (d : LI) : Option Int :=
 bindF (f102 d) fun r1 =>
 bif (!r1) then
 some (0:Int)
 else
 bindF (loopF (fun go x=>f103_l1 d go x.1 x.2) fuelN ((1:Int),(0:Int))) fun z2 =>
 some z2
def C103 : Con where
 X := LI
 Y := Int
 e := 0
 args x := [.dat T1 x]
 hin x := []
 F x := f103 x
 ret y := [.dat T2 y]
 hout y := []
 nout := 0
theorem C103_vc (d : LI) (y:Int) (q : f103 d = some y) : VC Tryz.f103 C103 d y := by
 unfold f103 at q
 refine OL (OL (OL ?_))
 obtain ⟨r1,hr1,q⟩ := bE q
 refine OL (AI f102_in (cV (cQ C102 d r1 [] false C102_holds hr1 rfl rfl (AI rfl (K0 (cI q (fun q=>?_) (fun q=>?_)))))))
 ·cases sE q
  refine OL (AI rfl (E4 [] (R2 (AI TV TV))))
 refine OL (OL (OL ?_))
 obtain ⟨z2,hz2,q⟩ := bE q
 refine lI (Int×Int) Int (fun x=>⟨[(0,.dat T1 d),(3,.dat T2 x.1),(4,.dat T2 x.2)],[],0⟩) (fun z=>[(2,⟨[(3,.dat T2 z)],[],0⟩)]) (loopF (fun go x=>f103_l1 d go x.1 x.2)) fuelN ((1:Int),(0:Int)) z2 (AI hz2 (AI (E4 [] (R4 (AI TV TV))) (AI (fun _ _ h=>lZ h) (AI (fun m=>curI (fun n=>fun i z q=>?_)) ?_))))
 ·have q : f103_l1 d (loopF (fun go x=>f103_l1 d go x.1 x.2) m) n i = some z := q
  unfold f103_l1 at q
  refine OL (OL (cI q (fun q=>?_) (fun q=>?_)))
  ·refine OL (gI q (fun q=>?_))
   refine EI ((i64.wrap (n * (rd (0:Int) d i))),(i64.wrap (i + (1:Int)))) (AI q (E4 [] (R4 (AI TV TV))))
  cases sE q
  refine E4 [] (R2 (AI TV TV))
 refine AI (OL ?_) TV
 cases sE q
 refine AI rfl (E4 [] (R2 (AI TV TV)))
theorem C103_holds : HP C103 103 := hH Tryz.f103 (by kernel_rfl) rfl (fun x y q=>C103_vc x y q)
theorem f103_in : InP 103 := inP (by kernel_rfl)
def f62 (t : LI×LI) : Option Bool :=
 bindF (f102 t.1) fun q1_2 =>
 bif q1_2 then
 bindF (f103 t.1) fun q1_9 =>
 some ((List.length t.2:Int) == q1_9)
 else
 some false
def C62 : Con where
 X := LI×LI
 Y := Bool
 e := 0
 args x := [.dat T3 x]
 hin x := []
 F x := f62 x
 ret y := [.dat .bool y]
 hout y := []
 nout := 0
theorem C62_vc (t : LI×LI) (y : Bool) (q : f62 t = some y) : VC Tryz.f62 C62 t y := by
 unfold f62 at q
 refine OL (OL (EI (.take 0 (.take 1 (.alt 2 (.take 3 (.take 4 (.take 5 (.take 6 (.take 7 (.take 8 (.alt 9 (.take 10 (.take 11 (.take 12 .done))) .done))))))) .done))) (EI [] (EI [] (AI rfl (AI TV ?_))))))
 obtain ⟨q1_2,hq1_2,q⟩ := bE q
 refine OL (AI f102_in (cV (cQ C102 t.1 q1_2 [] false C102_holds hq1_2 rfl rfl (AI rfl (K0 (cI q (fun q=>?_) (fun q=>?_)))))))
 ·refine gX (gX (gX (gX (AI TV (gX ?_)))))
  obtain ⟨q1_9,hq1_9,q⟩ := bE q
  refine OL (AI f103_in (cV (cQ C103 t.1 q1_9 [] false C103_holds hq1_9 rfl rfl (AI rfl (K0 (gX (cT ?_)))))))
  cases sE q
  refine AI rfl (E4 [] (R2 (AI TV TV)))
 refine gM (gM (gM (gM (AI TV (gM (gM (cF ?_)))))))
 cases sE q
 refine AI rfl (E4 [] (R2 (AI TV TV)))
theorem C62_holds : HP C62 62 := hH Tryz.f62 (by kernel_rfl) rfl (fun x y q=>C62_vc x y q)
theorem f62_in : InP 62 := inP (by kernel_rfl)
end Go.Proofs
