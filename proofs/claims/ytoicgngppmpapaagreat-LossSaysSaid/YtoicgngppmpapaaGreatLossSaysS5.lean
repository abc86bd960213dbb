import Derived.Test.YtoicgngppmpapaaGreatLossSaysS4
set_option linter.unusedVariables false
set_option maxRecDepth 100000
set_option maxHeartbeats 8000000
namespace Go.Proofs
open Go.AM
open IntKind (i64 u64 i32 u32 i16 u16 i8 u8)
def f177_j3 (a : LI×LI) (d : LI) : Option Bool :=
 bindF (f62 (a.1,a.2)) fun r9 =>
 bif (!r9) then
 some true
 else
 bindF (f102 d) fun r10 =>
 some (!r10)
def f177_j2 (a : LI×LI) (d : LI) : Option (Sum Unit Unit) :=
 bindF (f177_j3 a d) fun z8 =>
 bif z8 then
 some (Sum.inr ())
 else
 some (Sum.inl ())
def f177_j6 (a : LI×LI) (r11 : Int×LI) : Option Bool :=
 bif (r11.1 != (0:Int)) then
 some true
 else
 bindF (f73 r11.2 a.1) fun r18 =>
 some (!r18)
def f177_j5 (a : LI×LI) (r11 : Int×LI) : Option (Sum Unit Unit) :=
 bindF (f177_j6 a r11) fun z17 =>
 bif z17 then
 some (Sum.inr ())
 else
 some (Sum.inl ())
def f177_l7 (a : LI×LI) (d : LI) (go : (Int×LI) → Option LI) (i:Int) (l4 : LI) : Option LI :=
 bif (decide (i < (List.length a.2:Int))) then
 bindF (f128 d a.1 i) fun r23 =>
 guardF (0 ≤ r23.1 ∧ r23.1 < (List.length l4:Int)) <|
 guardF (0 ≤ i ∧ i < (List.length a.2:Int)) <|
 bindF (f129 (rd (0:Int) l4 r23.1) (rd (0:Int) a.2 i)) fun q11_13 =>
 guardF (0 ≤ r23.1 ∧ r23.1 < (List.length l4:Int)) <|
 go ((i64.wrap (i + (1:Int))),(List.set l4 (Int.toNat r23.1) q11_13))
 else
 some l4
def f177 (a : LI×LI) (d : LI) : Option (Int×LI×LI) :=
 bindF (f177_j2 a d) fun z5 =>
 sumF z5 (fun z5a =>
 bindF (f127 d a.1) fun r11 =>
 bindF (f177_j5 a r11) fun z15 =>
 sumF z15 (fun z15a =>
 bindF (f71 d (0:Int)) fun r19 =>
 bindF (loopF (fun go x=>f177_l7 a d go x.1 x.2) fuelN ((0:Int),r19.2)) fun z22 =>
 some ((0:Int),r19.1,z22)) (fun z15b =>
 some ((4:Int),[],[]))) (fun z5b =>
 some ((1:Int),[],[]))
def C177 : Con where
 X := (LI×LI)×LI
 Y := Int×LI×LI
 e := 0
 args x := [.dat T3 x.1,.dat T1 x.2]
 hin x := []
 F x := f177 x.1 x.2
 ret y := [.raw true [(.osl 0),(.osl 1)],.dat T2 y.1]
 hout y := [(0,.arr 3 T2 y.2.1),(1,.arr 40 T2 y.2.2)]
 nout := 2
theorem C177_vc (a : LI×LI) (d : LI) (y : Int×LI×LI) (q : f177 a d = some y) : VC Tryz.f177 C177 (a,d) y := by
 unfold f177 at q
 refine OL ?_
 obtain ⟨z5,hz5,q⟩ := bE q
 refine OQ ⟨Sum.elim (fun z5a=>[(0,⟨[(1,.dat T1 d),(2,P0 0 0),(4,P0 1 0)],[(0,.cells [(.d T1 a.1),(.d T1 a.2)]),(1,.cells [N0,N0])],2⟩)]) (fun z5b=>[(1,⟨[(4,P0 0 0),(5,D0 1)],[(0,.cells [N0,N0])],1⟩)]) z5,?_,?_⟩
 ·have q := hz5
  clear hz5
  unfold f177_j2 at q
  obtain ⟨z8,hz8,q⟩ := bE q
  refine OQ ⟨[(0,⟨[(1,.dat T1 d),(2,P0 0 0),(4,P0 1 0),(19,.dat .bool z8)],[(0,.cells [(.d T1 a.1),(.d T1 a.2)]),(1,.cells [N0,N0])],2⟩)],?_,?_⟩
  ·have q := hz8
   clear hz8
   unfold f177_j3 at q
   obtain ⟨r9,hr9,q⟩ := bE q
   refine OL (AI f62_in (cV (cQ C62 (a.1,a.2) r9 [] false C62_holds hr9 rfl rfl (R2 (K0 (cN q (fun q=>?_) (fun q=>?_)))))))
   ·refine gY ?_
    obtain ⟨r10,hr10,q⟩ := bE q
    refine OL (AI f102_in (cV (cQ C102 d r10 [] false C102_holds hr10 rfl rfl (AI rfl (K0 (gY (cF ?_)))))))
    cases sE q
    refine E4 I2 (R3 (AI (R2 TV) (R2 TV)))
   refine gN (gN (cT ?_))
   cases sE q
   refine E4 I2 (R3 (AI (R2 TV) (R2 TV)))
  refine AI (cI q (fun q=>?_) (fun q=>?_)) TV
  ·refine OL (OL ?_)
   cases sE q
   refine E4 [(0,some 1)] (R2 (AJ (AI rfl TV)))
  cases sE q
  refine E4 I2 (R2 (AI (R2 TV) (R2 TV)))
 rcases z5 with z5a | z5b
 ·dsimp only [sumF] at q
  refine AI (OL ?_) TV
  obtain ⟨r11,hr11,q⟩ := bE q
  refine OL (AI f127_in (cV (cQ C127 (d,a.1) r11 [] false C127_holds hr11 rfl rfl (R2 (K0 ?_)))))
  obtain ⟨z15,hz15,q⟩ := bE q
  refine OQ ⟨Sum.elim (fun z15a=>[(0,⟨[(1,.dat T1 d),(2,P0 0 0),(4,P0 1 0)],[(0,.cells [(.d T1 a.1),(.d T1 a.2)]),(1,.cells [N0,N0])],2⟩)]) (fun z15b=>[(1,⟨[(4,P0 0 0),(5,D0 4)],[(0,.cells [N0,N0])],1⟩)]) z15,?_,?_⟩
  ·have q := hz15
   clear hz15
   unfold f177_j5 at q
   obtain ⟨z17,hz17,q⟩ := bE q
   refine OQ ⟨[(0,⟨[(1,.dat T1 d),(2,P0 0 0),(4,P0 1 0),(36,.dat .bool z17)],[(0,.cells [(.d T1 a.1),(.d T1 a.2)]),(1,.cells [N0,N0])],2⟩)],?_,?_⟩
   ·have q := hz17
    clear hz17
    unfold f177_j6 at q
    refine cN q (fun q=>?_) (fun q=>?_)
    ·refine gY (gY (gY ?_))
     obtain ⟨r18,hr18,q⟩ := bE q
     refine OL (AI f73_in (cV (cQ C73 (r11.2,a.1) r18 [] true C73_holds hr18 rfl rfl (R2 (AI (fun _=>rfl) (R2 (AI TV (AI TV (gY (cF ?_))))))))))
     cases sE q
     refine E4 I2 (R3 (AI (R2 TV) (R2 TV)))
    refine gN (gN (gN (gN (cT ?_))))
    cases sE q
    refine E4 I2 (R3 (AI (R2 TV) (R2 TV)))
   refine AI (cI q (fun q=>?_) (fun q=>?_)) TV
   ·refine OL (OL ?_)
    cases sE q
    refine E4 [(0,some 1)] (R2 (AJ (AI rfl TV)))
   cases sE q
   refine E4 I2 (R2 (AI (R2 TV) (R2 TV)))
  rcases z15 with z15a | z15b
  ·dsimp only [sumF] at q
   refine AI (OL ?_) TV
   obtain ⟨r19,hr19,q⟩ := bE q
   refine OL (AI f71_in (cV (cQ C71 (d,(0:Int)) r19 [] false C71_holds hr19 rfl rfl (R2 (K0 (OL (OL (OL ?_))))))))
   obtain ⟨z22,hz22,q⟩ := bE q
   refine lI (Int×LI) LI (fun x=>⟨[(1,.dat T1 d),(2,P0 0 0),(4,P0 1 0),(8,P0 2 0),(9,.dat T2 x.1)],[(0,.cells [(.d T1 a.1),(.d T1 a.2)]),(1,.cells [N0,N0]),(2,.cells [(.osl 3),(.osl 4)]),(3,.arr 3 T2 r19.1),(4,.arr 40 T2 x.2)],5⟩) (fun z=>[(2,⟨[(4,P0 0 0),(8,P0 1 0)],[(0,.cells [N0,N0]),(1,.cells [(.osl 2),(.osl 3)]),(2,.arr 3 T2 r19.1),(3,.arr 40 T2 z)],4⟩)]) (loopF (fun go x=>f177_l7 a d go x.1 x.2)) fuelN ((0:Int),r19.2) z22 (AI hz22 (AI (E4 [(0,some 0),(1,some 1),(2,some 4),(3,some 2),(4,some 3)] (R3 (AI (R3 TV) (R5 TV)))) (AI (fun _ _ h=>lZ h) (AI (fun m=>curI (fun i=>fun l4 z q=>?_)) ?_))))
   ·have q : f177_l7 a d (loopF (fun go x=>f177_l7 a d go x.1 x.2) m) i l4 = some z := q
    unfold f177_l7 at q
    refine OL (OL (cI q (fun q=>?_) (fun q=>?_)))
    ·refine OL (OL ?_)
     obtain ⟨r23,hr23,q⟩ := bE q
     refine OL (AI f128_in (cV (cQ C128 (d,a.1,i) r23 [] false C128_holds hr23 rfl rfl (R3 (K0 (EI (.take 0 (.take 1 (.take 2 (.take 3 (.take 4 (.take 5 (.take 6 (.take 7 (.take 8 (.take 9 (.take 10 (.take 11 (.take 12 (.alt 13 (.take 14 (.alt 15 .done .done)) .done)))))))))))))) (EI [(15,[4])] (EI [] (AI rfl (gI q (fun q=>?_)))))))))))
     refine gI q (fun q=>?_)
     refine AI TV ?_
     obtain ⟨q11_13,hq11_13,q⟩ := bE q
     refine OL (AI f129_in (cV (cQ C129 ((rd (0:Int) l4 r23.1),(rd (0:Int) a.2 i)) q11_13 [] false C129_holds hq11_13 rfl rfl (R2 (K0 (gI q (fun q=>?_)))))))
     refine AI TV (OL (EI ((i64.wrap (i + (1:Int))),(List.set l4 (Int.toNat r23.1) q11_13)) (AI q (E4 I5 (R3 (AI (R3 TV) (R5 TV)))))))
    cases sE q
    refine E4 [(0,some 1),(1,some 2),(2,some 3),(3,some 4)] (AI rfl (AI (R2 TV) (R4 TV)))
   refine AI (OL (OL ?_)) TV
   cases sE q
   refine AI rfl (E4 [(0,some 2),(1,some 3)] (R2 (AJ (R2 TV))))
  dsimp only [sumF] at q
  refine AI ?_ TV
  cases sE q
  refine AI rfl (E4 [(0,none),(1,none)] (R2 (AJ (R2 TV))))
 dsimp only [sumF] at q
 refine AI ?_ TV
 cases sE q
 refine AI rfl (E4 [(0,none),(1,none)] (R2 (AJ (R2 TV))))
theorem C177_holds : HP C177 177 := hH Tryz.f177 (by kernel_rfl) rfl (fun x y q=>C177_vc x.1 x.2 y q)
theorem f177_in : InP 177 := inP (by kernel_rfl)
def f114 (g : LI×LI) (d : LI) : Option (LI×LI) :=
 bindF (f177 (g.1,g.2) d) fun r1 =>
 some (r1.2.1,r1.2.2)
def C114 : Con where
 X := (LI×LI)×LI
 Y := LI×LI
 e := 0
 args x := [.dat T3 x.1,.dat T1 x.2]
 hin x := []
 F x := f114 x.1 x.2
 ret y := [.raw true [(.osl 0),(.osl 1)]]
 hout y := [(0,.arr 3 T2 y.1),(1,.arr 40 T2 y.2)]
 nout := 2
theorem C114_vc (g : LI×LI) (d : LI) (y : LI×LI) (q : f114 g d = some y) : VC Tryz.f114 C114 (g,d) y := by
 unfold f114 at q
 refine OL (OL ?_)
 obtain ⟨r1,hr1,q⟩ := bE q
 refine OL (AI f177_in (cV (cQ C177 ((g.1,g.2),d) r1 [] false C177_holds hr1 rfl rfl (R3 (K0 (OL (OL (OL ?_))))))))
 cases sE q
 refine AI rfl (E4 [(0,some 2),(1,some 3)] (AI rfl (AJ (R2 TV))))
theorem C114_holds : HP C114 114 := hH Tryz.f114 (by kernel_rfl) rfl (fun x y q=>C114_vc x.1 x.2 y q)
theorem f114_in : InP 114 := inP (by kernel_rfl)
def f183 (kind:Int) (x_:Int) : Option Int :=
 bif (kind == (1:Int)) then
 bif (decide (x_ > (0:Int))) then
 some (4294967296:Int)
 else
 some (0:Int)
 else
 bif (kind == (2:Int)) then
 bif (decide (x_ > (0:Int))) then
 some (4294967296:Int)
 else
 some (536870912:Int)
 else
 bif (kind == (3:Int)) then
 bif (decide (x_ > (-4294967296:Int))) then
 bif (decide (x_ < (4294967296:Int))) then
 some (4294967296:Int)
 else
 some (0:Int)
 else
 some (0:Int)
 else
 bif (kind == (4:Int)) then
 bif (decide (x_ > (0:Int))) then
 some (4294967296:Int)
 else
 bif (decide (x_ < (0:Int))) then
 some (-4294967296:Int)
 else
 some (0:Int)
 else
 bif (decide (x_ > (-4294967296:Int))) then
 bif (decide (x_ < (4294967296:Int))) then
 some (2147483648:Int)
 else
 some (0:Int)
 else
 some (0:Int)
def C183 : Con where
 X := Int×Int
 Y := Int
 e := 0
 args x := [.dat T2 x.1,.dat T2 x.2]
 hin x := []
 F x := f183 x.1 x.2
 ret y := [.dat T2 y]
 hout y := []
 nout := 0
theorem C183_vc (kind:Int) (x_:Int) (y:Int) (q : f183 kind x_ = some y) : VC Tryz.f183 C183 (kind,x_) y := by
 unfold f183 at q
 refine OL (OL (OL (OL (cI q (fun q=>?_) (fun q=>?_)))))
 ·refine OL (OL (cI q (fun q=>?_) (fun q=>?_)))
  ·cases sE q
   refine OL (AI rfl (E4 [] (R2 (AI TV TV))))
  cases sE q
  refine OL (AI rfl (E4 [] (R2 (AI TV TV))))
 refine OL (cI q (fun q=>?_) (fun q=>?_))
 ·refine OL (OL (cI q (fun q=>?_) (fun q=>?_)))
  ·cases sE q
   refine OL (AI rfl (E4 [] (R2 (AI TV TV))))
  cases sE q
  refine OL (AI rfl (E4 [] (R2 (AI TV TV))))
 refine OL (cI q (fun q=>?_) (fun q=>?_))
 ·refine OL (OL (cI q (fun q=>?_) (fun q=>?_)))
  ·refine gX (cT (cI q (fun q=>?_) (fun q=>?_)))
   ·cases sE q
    refine OL (AI rfl (E4 [] (R2 (AI TV TV))))
   cases sE q
   refine OL (AI rfl (E4 [] (R2 (AI TV TV))))
  refine gM (cF (cF (OL ?_)))
  cases sE q
  refine AI rfl (E4 [] (R2 (AI TV TV)))
 refine OL (cI q (fun q=>?_) (fun q=>?_))
 ·refine OL (OL (cI q (fun q=>?_) (fun q=>?_)))
  ·cases sE q
   refine OL (AI rfl (E4 [] (R2 (AI TV TV))))
  refine OL (cI q (fun q=>?_) (fun q=>?_))
  ·cases sE q
   refine OL (AI rfl (E4 [] (R2 (AI TV TV))))
  cases sE q
  refine OL (AI rfl (E4 [] (R2 (AI TV TV))))
 refine OL (OL (cI q (fun q=>?_) (fun q=>?_)))
 ·refine gX (cT (cI q (fun q=>?_) (fun q=>?_)))
  ·cases sE q
   refine OL (AI rfl (E4 [] (R2 (AI TV TV))))
  cases sE q
  refine OL (AI rfl (E4 [] (R2 (AI TV TV))))
 refine gM (cF (cF (OL ?_)))
 cases sE q
 refine AI rfl (E4 [] (R2 (AI TV TV)))
theorem C183_holds : HP C183 183 := hH Tryz.f183 (by kernel_rfl) rfl (fun x y q=>C183_vc x.1 x.2 y q)
theorem f183_in : InP 183 := inP (by kernel_rfl)
def f122_j3 (kind:Int) (t : LI×LI) (g : LI×LI) : Option Bool :=
 bif (decide (kind < (1:Int))) then
 some true
 else
 bif (decide (kind > (5:Int))) then
 some true
 else
 bindF (f62 (t.1,t.2)) fun r9 =>
 bif (!r9) then
 some true
 else
 bindF (f62 (g.1,g.2)) fun r10 =>
 some (!r10)
def f122_j2 (kind:Int) (t : LI×LI) (g : LI×LI) : Option (Sum Unit Unit) :=
 bindF (f122_j3 kind t g) fun z8 =>
 bif z8 then
 some (Sum.inr ())
 else
 some (Sum.inl ())
def f122_l4 (kind:Int) (t : LI×LI) (g : LI×LI) (go : (Int×LI) → Option LI) (i:Int) (l5 : LI) : Option LI :=
 bif (decide (i < (List.length l5:Int))) then
 guardF (0 ≤ i ∧ i < (List.length g.2:Int)) <|
 guardF (0 ≤ i ∧ i < (List.length t.2:Int)) <|
 bindF (f183 kind (rd (0:Int) t.2 i)) fun q9_14 =>
 bindF (f131 (rd (0:Int) g.2 i) q9_14) fun q9_15 =>
 guardF (0 ≤ i ∧ i < (List.length l5:Int)) <|
 go ((i64.wrap (i + (1:Int))),(List.set l5 (Int.toNat i) q9_15))
 else
 some l5
def f122 (kind:Int) (t : LI×LI) (g : LI×LI) : Option (Int×LI×LI) :=
 bindF (f122_j2 kind t g) fun z5 =>
 sumF z5 (fun z5a =>
 bindF (f73 t.1 g.1) fun r11 =>
 bif (!r11) then
 some ((4:Int),[],[])
 else
 bindF (f71 t.1 (0:Int)) fun r12 =>
 bindF (loopF (fun go x=>f122_l4 kind t g go x.1 x.2) fuelN ((0:Int),r12.2)) fun z13 =>
 some ((0:Int),r12.1,z13)) (fun z5b =>
 some ((1:Int),[],[]))
def C122 : Con where
 X := Int×(LI×LI)×(LI×LI)
 Y := Int×LI×LI
 e := 0
 args x := [.dat T2 x.1,.dat T3 x.2.1,.dat T3 x.2.2]
 hin x := []
 F x := f122 x.1 x.2.1 x.2.2
 ret y := [.raw true [(.osl 0),(.osl 1)],.dat T2 y.1]
 hout y := [(0,.arr 3 T2 y.2.1),(1,.arr 40 T2 y.2.2)]
 nout := 2
theorem C122_vc (kind:Int) (t : LI×LI) (g : LI×LI) (y : Int×LI×LI) (q : f122 kind t g = some y) : VC Tryz.f122 C122 (kind,t,g) y := by
 unfold f122 at q
 refine OL ?_
 obtain ⟨z5,hz5,q⟩ := bE q
 refine OQ ⟨Sum.elim (fun z5a=>[(0,⟨[(0,.dat T2 kind),(4,P0 0 0),(5,P0 1 0),(6,P0 2 0)],[(0,.cells [(.d T1 t.1),(.d T1 t.2)]),(1,.cells [(.d T1 g.1),(.d T1 g.2)]),(2,.cells [N0,N0])],3⟩)]) (fun z5b=>[(1,⟨[(6,P0 0 0),(7,D0 1)],[(0,.cells [N0,N0])],1⟩)]) z5,?_,?_⟩
 ·have q := hz5
  clear hz5
  unfold f122_j2 at q
  obtain ⟨z8,hz8,q⟩ := bE q
  refine OQ ⟨[(0,⟨[(0,.dat T2 kind),(4,P0 0 0),(5,P0 1 0),(6,P0 2 0),(25,.dat .bool z8)],[(0,.cells [(.d T1 t.1),(.d T1 t.2)]),(1,.cells [(.d T1 g.1),(.d T1 g.2)]),(2,.cells [N0,N0])],3⟩)],?_,?_⟩
  ·have q := hz8
   clear hz8
   unfold f122_j3 at q
   refine cN q (fun q=>?_) (fun q=>?_)
   ·refine gY (cF (cN q (fun q=>?_) (fun q=>?_)))
    ·refine gY ?_
     obtain ⟨r9,hr9,q⟩ := bE q
     refine OL (AI f62_in (cV (cQ C62 (t.1,t.2) r9 [] false C62_holds hr9 rfl rfl (R2 (K0 (gY (cF (cN q (fun q=>?_) (fun q=>?_)))))))))
     ·refine gY ?_
      obtain ⟨r10,hr10,q⟩ := bE q
      refine OL (AI f62_in (cV (cQ C62 (g.1,g.2) r10 [] false C62_holds hr10 rfl rfl (R2 (K0 (gY (cF ?_)))))))
      cases sE q
      refine E4 I3 (R3 (AI (R3 TV) (R3 TV)))
     refine gN (gN (cT ?_))
     cases sE q
     refine E4 I3 (R3 (AI (R3 TV) (R3 TV)))
    refine gN (gN (cT (gN (gN (gN (cT ?_))))))
    cases sE q
    refine E4 I3 (R3 (AI (R3 TV) (R3 TV)))
   refine gN (cT (gN (gN (gN (cT (gN (gN (gN (cT ?_)))))))))
   cases sE q
   refine E4 I3 (R3 (AI (R3 TV) (R3 TV)))
  refine AI (cI q (fun q=>?_) (fun q=>?_)) TV
  ·refine OL (OL ?_)
   cases sE q
   refine E4 [(0,some 2)] (R2 (AJ (AI rfl TV)))
  cases sE q
  refine E4 I3 (R2 (AI (R3 TV) (R3 TV)))
 rcases z5 with z5a | z5b
 ·dsimp only [sumF] at q
  refine AI (OL (OL ?_)) TV
  obtain ⟨r11,hr11,q⟩ := bE q
  refine OL (AI f73_in (cV (cQ C73 (t.1,g.1) r11 [] false C73_holds hr11 rfl rfl (R2 (K0 (cI q (fun q=>?_) (fun q=>?_)))))))
  ·refine OL (OL ?_)
   cases sE q
   refine AI rfl (E4 [(0,none),(1,none)] (R2 (AJ (R2 TV))))
  refine OL ?_
  obtain ⟨r12,hr12,q⟩ := bE q
  refine OL (AI f71_in (cV (cQ C71 (t.1,(0:Int)) r12 [] false C71_holds hr12 rfl rfl (R2 (K0 (OL (OL (OL ?_))))))))
  obtain ⟨z13,hz13,q⟩ := bE q
  refine lI (Int×LI) LI (fun x=>⟨[(0,.dat T2 kind),(4,P0 0 0),(5,P0 1 0),(6,P0 2 0),(8,P0 3 0),(9,.dat T2 x.1)],[(0,.cells [(.d T1 t.1),(.d T1 t.2)]),(1,.cells [(.d T1 g.1),(.d T1 g.2)]),(2,.cells [N0,N0]),(3,.cells [(.osl 4),(.osl 5)]),(4,.arr 3 T2 r12.1),(5,.arr 40 T2 x.2)],6⟩) (fun z=>[(2,⟨[(6,P0 0 0),(8,P0 1 0)],[(0,.cells [N0,N0]),(1,.cells [(.osl 2),(.osl 3)]),(2,.arr 3 T2 r12.1),(3,.arr 40 T2 z)],4⟩)]) (loopF (fun go x=>f122_l4 kind t g go x.1 x.2)) fuelN ((0:Int),r12.2) z13 (AI hz13 (AI (E4 [(0,some 0),(1,some 1),(2,some 2),(3,some 5),(4,some 3),(5,some 4)] (R3 (AI (R4 TV) (R6 TV)))) (AI (fun _ _ h=>lZ h) (AI (fun m=>curI (fun i=>fun l5 z q=>?_)) ?_))))
  ·have q : f122_l4 kind t g (loopF (fun go x=>f122_l4 kind t g go x.1 x.2) m) i l5 = some z := q
   unfold f122_l4 at q
   refine OL (OL (cI q (fun q=>?_) (fun q=>?_)))
   ·refine OL (EI (.take 0 (.take 1 (.take 2 (.take 3 (.take 4 (.take 5 (.take 6 (.take 7 (.take 8 (.take 9 (.take 10 (.take 11 (.take 12 (.take 13 (.alt 14 (.alt 15 (.take 16 (.alt 17 .done .done)) .done) .done))))))))))))))) (EI [] (EI [] (AI rfl (gI q (fun q=>?_))))))
    refine gI q (fun q=>?_)
    refine AI TV ?_
    obtain ⟨q9_14,hq9_14,q⟩ := bE q
    refine OL (AI f183_in (cV (cQ C183 (kind,(rd (0:Int) t.2 i)) q9_14 [] false C183_holds hq9_14 rfl rfl (R2 (K0 (AI TV ?_))))))
    obtain ⟨q9_15,hq9_15,q⟩ := bE q
    refine OL (AI f131_in (cV (cQ C131 ((rd (0:Int) g.2 i),q9_14) q9_15 [] false C131_holds hq9_15 rfl rfl (R2 (K0 (gI q (fun q=>?_)))))))
    refine AI TV (OL (EI ((i64.wrap (i + (1:Int))),(List.set l5 (Int.toNat i) q9_15)) (AI q (E4 I6 (R3 (AI (R4 TV) (R6 TV)))))))
   cases sE q
   refine E4 [(0,some 2),(1,some 3),(2,some 4),(3,some 5)] (AI rfl (AI (R2 TV) (R4 TV)))
  refine AI (OL (OL ?_)) TV
  cases sE q
  refine AI rfl (E4 [(0,some 2),(1,some 3)] (R2 (AJ (R2 TV))))
 dsimp only [sumF] at q
 refine AI ?_ TV
 cases sE q
 refine AI rfl (E4 [(0,none),(1,none)] (R2 (AJ (R2 TV))))
theorem C122_holds : HP C122 122 := hH Tryz.f122 (by kernel_rfl) rfl (fun x y q=>C122_vc x.1 x.2.1 x.2.2 y q)
theorem f122_in : InP 122 := inP (by kernel_rfl)
def f123 (g : LI×LI) (k : LI×LI) (step:Int) (long:Int) : Option (Int×LI×LI) :=
 none
def C123 : Con where
 X := (LI×LI)×(LI×LI)×Int×Int
 Y := Int×LI×LI
 e := 0
 args x := [.dat T3 x.1,.dat T3 x.2.1,.dat T2 x.2.2.1,.dat T2 x.2.2.2]
 hin x := []
 F x := f123 x.1 x.2.1 x.2.2.1 x.2.2.2
 ret y := [.raw true [(.osl 0),(.osl 1)],.dat T2 y.1]
 hout y := [(0,.arr 3 T2 y.2.1),(1,.arr 40 T2 y.2.2)]
 nout := 2
theorem C123_vc (g : LI×LI) (k : LI×LI) (step:Int) (long:Int) (y : Int×LI×LI) (q : f123 g k step long = some y) : VC Tryz.f123 C123 (g,k,step,long) y := by
 unfold f123 at q
 exact nomatch q
theorem C123_holds : HP C123 123 := hH Tryz.f123 (by kernel_rfl) rfl (fun x y q=>C123_vc x.1 x.2.1 x.2.2.1 x.2.2.2 y q)
theorem f123_in : InP 123 := inP (by kernel_rfl)
def f124 (g : LI×LI) (a : LI×LI) (step:Int) (w:Int) : Option (Int×LI×LI) :=
 none
def C124 : Con where
 X := (LI×LI)×(LI×LI)×Int×Int
 Y := Int×LI×LI
 e := 0
 args x := [.dat T3 x.1,.dat T3 x.2.1,.dat T2 x.2.2.1,.dat T2 x.2.2.2]
 hin x := []
 F x := f124 x.1 x.2.1 x.2.2.1 x.2.2.2
 ret y := [.raw true [(.osl 0),(.osl 1)],.dat T2 y.1]
 hout y := [(0,.arr 3 T2 y.2.1),(1,.arr 40 T2 y.2.2)]
 nout := 2
theorem C124_vc (g : LI×LI) (a : LI×LI) (step:Int) (w:Int) (y : Int×LI×LI) (q : f124 g a step w = some y) : VC Tryz.f124 C124 (g,a,step,w) y := by
 unfold f124 at q
 exact nomatch q
theorem C124_holds : HP C124 124 := hH Tryz.f124 (by kernel_rfl) rfl (fun x y q=>C124_vc x.1 x.2.1 x.2.2.1 x.2.2.2 y q)
theorem f124_in : InP 124 := inP (by kernel_rfl)
def f76_j3 (t_L : NL) (n:Int) (g : LI×LI) : Option Bool :=
 bif (decide (n < (0:Int))) then
 some true
 else
 bif (decide (n ≥ (List.length t_L:Int))) then
 some true
 else
 bindF (f62 (g.1,g.2)) fun q2_13 =>
 bif (!q2_13) then
 some true
 else
 guardF (0 ≤ n ∧ n < (List.length t_L:Int)) <|
 bindF (f73 g.1 ((((((rd (Ty.z T0) t_L n).2).2).2).2).1)) fun q2_28 =>
 some (!q2_28)
def f76_j2 (t_L : NL) (n:Int) (g : LI×LI) : Option (Sum Unit Unit) :=
 bindF (f76_j3 t_L n g) fun z3 =>
 bif z3 then
 some (Sum.inr ())
 else
 some (Sum.inl ())
def f76_j4 (t_L : NL) (n:Int) : Option (LI×LI) :=
 bif (decide (((((rd (Ty.z T0) t_L n).2).2).1) ≥ (0:Int))) then
 guardF (0 ≤ (((rd (Ty.z T0) t_L n).2).2).1 ∧ (((rd (Ty.z T0) t_L n).2).2).1 < (List.length t_L:Int)) <|
 some ((((((rd (Ty.z T0) t_L ((((rd (Ty.z T0) t_L n).2).2).1)).2).2).2).2).1,(((((rd (Ty.z T0) t_L ((((rd (Ty.z T0) t_L n).2).2).1)).2).2).2).2).2)
 else
 some ([],[])
def f76_l5 (t_L : NL) (n:Int) (g : LI×LI) (go : (Int×LI) → Option LI) (i:Int) (l9 : LI) : Option LI :=
 bif (decide (i < (List.length l9:Int))) then
 bindF (f118 ((((((rd (Ty.z T0) t_L (((rd (Ty.z T0) t_L n).2).1)).2).2).2).2).1) i) fun r12 =>
 guardF (0 ≤ ((((rd (Ty.z T0) t_L n).2).2).2).1 ∧ ((((rd (Ty.z T0) t_L n).2).2).2).1 ≤ (List.length r12.2:Int)) <|
 guardF (0 ≤ (i64.wrap ((((((rd (Ty.z T0) t_L n).2).2).2).1) + (1:Int))) ∧ (i64.wrap ((((((rd (Ty.z T0) t_L n).2).2).2).1) + (1:Int))) ≤ (List.length r12.2:Int)) <|
 guardF ((List.length ([] : LI) + List.length (List.take (Int.toNat (((((rd (Ty.z T0) t_L n).2).2).2).1)) r12.2)) * 8 ≤ 140737488355328) <|
 guardF ((List.length (([] : LI) ++ (List.take (Int.toNat (((((rd (Ty.z T0) t_L n).2).2).2).1)) r12.2)) + List.length (List.drop (Int.toNat (i64.wrap ((((((rd (Ty.z T0) t_L n).2).2).2).1) + (1:Int)))) r12.2)) * 8 ≤ 140737488355328) <|
 bindF (f119 g.1 ((([] : LI) ++ (List.take (Int.toNat (((((rd (Ty.z T0) t_L n).2).2).2).1)) r12.2)) ++ (List.drop (Int.toNat (i64.wrap ((((((rd (Ty.z T0) t_L n).2).2).2).1) + (1:Int)))) r12.2))) fun q40_10 =>
 guardF (0 ≤ q40_10.1 ∧ q40_10.1 < (List.length g.2:Int)) <|
 guardF (0 ≤ i ∧ i < (List.length l9:Int)) <|
 go ((i64.wrap (i + (1:Int))),(List.set l9 (Int.toNat i) (rd (0:Int) g.2 q40_10.1)))
 else
 some l9
def f76_j6 (t_L : NL) (n:Int) (g : LI×LI) (z4 : LI×LI) : Option (LI×LI) :=
 guardF (0 ≤ (1:Int) ∧ (1:Int) < (List.length ((((((rd (Ty.z T0) t_L (((rd (Ty.z T0) t_L n).2).1)).2).2).2).2).1):Int)) <|
 bindF (f123 (g.1,g.2) (z4.1,z4.2) (((((rd (Ty.z T0) t_L n).2).2).2).1) (rd (0:Int) ((((((rd (Ty.z T0) t_L (((rd (Ty.z T0) t_L n).2).1)).2).2).2).2).1) (1:Int))) fun q53_8 =>
 some (q53_8.2.1,q53_8.2.2)
def f76_j7 (t_L : NL) (n:Int) (g : LI×LI) (z4 : LI×LI) : Option (LI×LI) :=
 guardF (0 ≤ (2:Int) ∧ (2:Int) < (List.length z4.1:Int)) <|
 bindF (f124 (g.1,g.2) ((((((rd (Ty.z T0) t_L (((rd (Ty.z T0) t_L n).2).1)).2).2).2).2).1,(((((rd (Ty.z T0) t_L (((rd (Ty.z T0) t_L n).2).1)).2).2).2).2).2) (((((rd (Ty.z T0) t_L n).2).2).2).1) (rd (0:Int) z4.1 (2:Int))) fun q54_8 =>
 some (q54_8.2.1,q54_8.2.2)
def f76_l8 (g : LI×LI) (r15 : Int×LI×LI×LI) (go : (Int×LI) → Option LI) (i:Int) (l9 : LI) : Option LI :=
 bif (decide (i < (List.length r15.2.2.2:Int))) then
 guardF (0 ≤ i ∧ i < (List.length r15.2.2.2:Int)) <|
 guardF (0 ≤ i ∧ i < (List.length g.2:Int)) <|
 guardF (0 ≤ (rd (0:Int) r15.2.2.2 i) ∧ (rd (0:Int) r15.2.2.2 i) < (List.length l9:Int)) <|
 go ((i64.wrap (i + (1:Int))),(List.set l9 (Int.toNat (rd (0:Int) r15.2.2.2 i)) (rd (0:Int) g.2 i)))
 else
 some l9
def f76 (t_L : NL) (n:Int) (g : LI×LI) : Option (Int×LI×LI×LI×LI×NL) :=
 bindF (f76_j2 t_L n g) fun z2 =>
 sumF z2 (fun z2a =>
 guardF (0 ≤ n ∧ n < (List.length t_L:Int)) <|
 bif (((rd (Ty.z T0) t_L n).1) == (1:Int)) then
 some ((0:Int),[],[],[],[],t_L)
 else
 guardF (0 ≤ ((rd (Ty.z T0) t_L n).2).1 ∧ ((rd (Ty.z T0) t_L n).2).1 < (List.length t_L:Int)) <|
 bindF (f76_j4 t_L n) fun z4 =>
 bif (((rd (Ty.z T0) t_L n).1) == (2:Int)) then
 bindF (f114 (g.1,g.2) ((((((rd (Ty.z T0) t_L (((rd (Ty.z T0) t_L n).2).1)).2).2).2).2).1)) fun q13_3 =>
 bindF (f114 (g.1,g.2) z4.1) fun q13_7 =>
 some ((0:Int),q13_3.1,q13_3.2,q13_7.1,q13_7.2,t_L)
 else
 bif (((rd (Ty.z T0) t_L n).1) == (3:Int)) then
 bindF (f115 (g.1,g.2) (-4294967296:Int)) fun q13_10 =>
 bindF (f114 (g.1,g.2) ((((((rd (Ty.z T0) t_L (((rd (Ty.z T0) t_L n).2).1)).2).2).2).2).1)) fun q16_3 =>
 bindF (f114 (q13_10.2.1,q13_10.2.2) z4.1) fun q16_7 =>
 some ((0:Int),q16_3.1,q16_3.2,q16_7.1,q16_7.2,t_L)
 else
 bif (((rd (Ty.z T0) t_L n).1) == (4:Int)) then
 bindF (f77 (2:Int) (g.1,g.2) (z4.1,z4.2)) fun q16_10 =>
 bindF (f77 (2:Int) (g.1,g.2) ((((((rd (Ty.z T0) t_L (((rd (Ty.z T0) t_L n).2).1)).2).2).2).2).1,(((((rd (Ty.z T0) t_L (((rd (Ty.z T0) t_L n).2).1)).2).2).2).2).2)) fun r5 =>
 bindF (f114 (q16_10.2.1,q16_10.2.2) ((((((rd (Ty.z T0) t_L (((rd (Ty.z T0) t_L n).2).1)).2).2).2).2).1)) fun q20_3 =>
 bindF (f114 (r5.2.1,r5.2.2) z4.1) fun q20_7 =>
 some ((0:Int),q20_3.1,q20_3.2,q20_7.1,q20_7.2,t_L)
 else
 bif (((rd (Ty.z T0) t_L n).1) == (5:Int)) then
 bindF (f115 (g.1,g.2) (((((rd (Ty.z T0) t_L n).2).2).2).1)) fun q20_10 =>
 some ((0:Int),q20_10.2.1,q20_10.2.2,[],[],t_L)
 else
 bif (((rd (Ty.z T0) t_L n).1) == (6:Int)) then
 bindF (f116 (z4.1,z4.2)) fun q23_4 =>
 bindF (f116 ((((((rd (Ty.z T0) t_L (((rd (Ty.z T0) t_L n).2).1)).2).2).2).2).1,(((((rd (Ty.z T0) t_L (((rd (Ty.z T0) t_L n).2).1)).2).2).2).2).2)) fun r6 =>
 bindF (f117 (g.1,g.2) (q23_4.2.1,q23_4.2.2)) fun r7 =>
 bindF (f117 (r6.2.1,r6.2.2) (g.1,g.2)) fun r8 =>
 some ((0:Int),r7.2.1,r7.2.2,r8.2.1,r8.2.2,t_L)
 else
 bif (((rd (Ty.z T0) t_L n).1) == (7:Int)) then
 bindF (f116 (g.1,g.2)) fun q29_4 =>
 some ((0:Int),q29_4.2.1,q29_4.2.2,[],[],t_L)
 else
 bif (((rd (Ty.z T0) t_L n).1) == (8:Int)) then
 bindF (f71 ((((((rd (Ty.z T0) t_L (((rd (Ty.z T0) t_L n).2).1)).2).2).2).2).1) (0:Int)) fun q32_4 =>
 bindF (loopF (fun go x=>f76_l5 t_L n g go x.1 x.2) fuelN ((0:Int),q32_4.2)) fun z11 =>
 some ((0:Int),q32_4.1,z11,[],[],t_L)
 else
 bif (((rd (Ty.z T0) t_L n).1) == (9:Int)) then
 guardF (0 ≤ (0:Int) ∧ (0:Int) < (List.length g.2:Int)) <|
 bindF (f71 ((((((rd (Ty.z T0) t_L (((rd (Ty.z T0) t_L n).2).1)).2).2).2).2).1) (rd (0:Int) g.2 (0:Int))) fun q45_6 =>
 some ((0:Int),q45_6.1,q45_6.2,[],[],t_L)
 else
 bif (((rd (Ty.z T0) t_L n).1) == (10:Int)) then
 guardF (0 ≤ (0:Int) ∧ (0:Int) < (List.length g.2:Int)) <|
 bindF (f87 (rd (0:Int) g.2 (0:Int))) fun q47_4 =>
 bindF (f121 q47_4.1 q47_4.2 (0:Int) (0:Int) (0:Int) (List.length ((((((rd (Ty.z T0) t_L (((rd (Ty.z T0) t_L n).2).1)).2).2).2).2).2):Int)) fun q47_8 =>
 bindF (f120 q47_8.1 q47_8.2.1 q47_8.2.2.1 q47_8.2.2.2.1 q47_8.2.2.2.2) fun q47_9 =>
 bindF (f71 ((((((rd (Ty.z T0) t_L (((rd (Ty.z T0) t_L n).2).1)).2).2).2).2).1) q47_9) fun q48_3 =>
 some ((0:Int),q48_3.1,q48_3.2,[],[],t_L)
 else
 bif (((rd (Ty.z T0) t_L n).1) == (11:Int)) then
 bindF (f122 (((((rd (Ty.z T0) t_L n).2).2).2).1) ((((((rd (Ty.z T0) t_L (((rd (Ty.z T0) t_L n).2).1)).2).2).2).2).1,(((((rd (Ty.z T0) t_L (((rd (Ty.z T0) t_L n).2).1)).2).2).2).2).2) (g.1,g.2)) fun q48_7 =>
 some ((0:Int),q48_7.2.1,q48_7.2.2,[],[],t_L)
 else
 bif (((rd (Ty.z T0) t_L n).1) == (12:Int)) then
 bindF (f76_j6 t_L n g z4) fun z13 =>
 bindF (f76_j7 t_L n g z4) fun z14 =>
 some ((0:Int),z13.1,z13.2,z14.1,z14.2,t_L)
 else
 bif (((rd (Ty.z T0) t_L n).1) == (13:Int)) then
 bindF (f71 ((((((rd (Ty.z T0) t_L (((rd (Ty.z T0) t_L n).2).1)).2).2).2).2).1) (0:Int)) fun q55_4 =>
 bindF (f125 ((((((rd (Ty.z T0) t_L (((rd (Ty.z T0) t_L n).2).1)).2).2).2).2).1,(((((rd (Ty.z T0) t_L (((rd (Ty.z T0) t_L n).2).1)).2).2).2).2).2) (((((rd (Ty.z T0) t_L n).2).2).2).1)) fun r15 =>
 bindF (loopF (fun go x=>f76_l8 g r15 go x.1 x.2) fuelN ((0:Int),q55_4.2)) fun z16 =>
 some ((0:Int),q55_4.1,z16,[],[],t_L)
 else
 bindF (f126 (g.1,g.2) ((((((rd (Ty.z T0) t_L (((rd (Ty.z T0) t_L n).2).1)).2).2).2).2).1)) fun q63_4 =>
 some ((0:Int),q63_4.2.1,q63_4.2.2,[],[],t_L)) (fun z2b =>
 some ((1:Int),[],[],[],[],t_L))
def C76 : Con where
 X := NL×Int×(LI×LI)
 Y := Int×LI×LI×LI×LI×NL
 e := 2
 args x := [P0 0 0,.dat T2 x.2.1,.dat T3 x.2.2]
 hin x := [(0,.cells [(.osl 1)]),(1,.arr 45 T0 x.1)]
 F x := f76 x.1 x.2.1 x.2.2
 ret y := [.raw true [(.osl 2),(.osl 3)],.raw true [(.osl 4),(.osl 5)],.dat T2 y.1]
 hout y := [(0,.cells [(.osl 1)]),(1,.arr 45 T0 y.2.2.2.2.2),(2,.arr 3 T2 y.2.1),(3,.arr 40 T2 y.2.2.1),(4,.arr 3 T2 y.2.2.2.1),(5,.arr 40 T2 y.2.2.2.2.1)]
 nout := 6
theorem C76_vc (t_L : NL) (n:Int) (g : LI×LI) (y : Int×LI×LI×LI×LI×NL) (q : f76 t_L n g = some y) : VE Tryz.f76 2 C76 (t_L,n,g) y := by
 unfold f76 at q
 refine OL (OL (OL ?_))
 obtain ⟨z2,hz2,q⟩ := bE q
 refine OQ ⟨Sum.elim (fun z2a=>[(0,⟨[(0,P0 0 0),(1,.dat T2 n),(5,P0 2 0),(6,P0 3 0),(7,P0 4 0),(9,P0 5 0)],[(0,.cells [(.osl 1)]),(1,.arr 45 T0 t_L),(2,.cells [(.d T1 g.1),(.d T1 g.2)]),(3,.cells [N0,N0]),(4,.cells [N0,N0]),(5,.cells [N0,N0])],6⟩)]) (fun z2b=>[(1,⟨[(6,P0 2 0),(7,P0 3 0),(8,D0 1)],[(0,.cells [(.osl 1)]),(1,.arr 45 T0 t_L),(2,.cells [N0,N0]),(3,.cells [N0,N0])],4⟩)]) z2,?_,?_⟩
 ·have q := hz2
  clear hz2
  unfold f76_j2 at q
  obtain ⟨z3,hz3,q⟩ := bE q
  refine OQ ⟨[(0,⟨[(0,P0 0 0),(1,.dat T2 n),(5,P0 2 0),(6,P0 3 0),(7,P0 4 0),(9,P0 5 0),(84,.dat .bool z3)],[(0,.cells [(.osl 1)]),(1,.arr 45 T0 t_L),(2,.cells [(.d T1 g.1),(.d T1 g.2)]),(3,.cells [N0,N0]),(4,.cells [N0,N0]),(5,.cells [N0,N0])],6⟩)],?_,?_⟩
  ·have q := hz3
   clear hz3
   unfold f76_j3 at q
   refine EI (.take 0 (.take 1 (.take 2 (.take 3 (.take 4 (.take 5 (.take 6 (.take 7 (.take 8 (.take 9 (.take 10 (.take 11 (.take 12 (.alt 13 (.take 14 (.take 15 (.take 16 (.take 17 (.take 18 (.take 19 (.take 20 (.take 21 (.take 22 (.take 23 (.take 24 (.take 25 (.take 26 (.take 27 (.alt 28 (.take 29 (.take 30 .done)) .done))))))))))))))) .done)))))))))))))) (EI [] (EI [] (AI rfl (cN q (fun q=>?_) (fun q=>?_)))))
   ·refine gY (gY (gY (gY (gY (gY (cF (cN q (fun q=>?_) (fun q=>?_))))))))
    ·refine AI TV (gY ?_)
     obtain ⟨q2_13,hq2_13,q⟩ := bE q
     refine OL (AI f62_in (cV (cQ C62 (g.1,g.2) q2_13 [] false C62_holds hq2_13 rfl rfl (R2 (K0 (gY (cF (cN q (fun q=>?_) (fun q=>?_)))))))))
     ·refine gY (gY (gY (gY (gY (gY (gY (gI q (fun q=>?_))))))))
      refine gY (gY (gY (AI TV (gY ?_))))
      obtain ⟨q2_28,hq2_28,q⟩ := bE q
      refine OL (AI f73_in (cV (cQ C73 (g.1,(((((rd (Ty.z T0) t_L n).2).2).2).2).1) q2_28 [] false C73_holds hq2_28 rfl rfl (R2 (K0 (gY (cF ?_)))))))
      cases sE q
      refine E4 I6 (R3 (AI (R5 TV) (R6 TV)))
     refine gN (gN (gN (gN (gN (gN (gN (gN (gN (gN (AI TV (gN (gN (cT ?_)))))))))))))
     cases sE q
     refine E4 I6 (R3 (AI (R5 TV) (R6 TV)))
    refine AI TV (gN (gN (cT (gN (gN (gN (gN (gN (gN (gN (gN (gN (gN (gN (AI TV (gN (gN (cT ?_))))))))))))))))))
    cases sE q
    refine E4 I6 (R3 (AI (R5 TV) (R6 TV)))
   refine gN (gN (gN (gN (gN (gN (cT (gN (AI TV (gN (gN (cT (gN (gN (gN (gN (gN (gN (gN (gN (gN (gN (gN (AI TV (gN (gN (cT ?_))))))))))))))))))))))))))
   cases sE q
   refine E4 I6 (R3 (AI (R5 TV) (R6 TV)))
  refine AI (cI q (fun q=>?_) (fun q=>?_)) TV
  ·refine OL (EI (.take 0 (.take 1 (.alt 2 (.alt 3 (.take 4 .done) .done) .done))) (EI [] (EI [] (AI rfl (AI TV (OL (AI TV (OL ?_))))))))
   cases sE q
   refine E4 [(0,some 0),(1,some 1),(2,some 3),(3,some 4)] (R2 (AI (R2 TV) (R4 TV)))
  cases sE q
  refine E4 I6 (R2 (AI (R5 TV) (R6 TV)))
 rcases z2 with z2a | z2b
 ·dsimp only [sumF] at q
  refine AI (OL (gI q (fun q=>?_))) TV
  refine OL (OL (OL (cI q (fun q=>?_) (fun q=>?_))))
  ·refine OL (EI (.take 0 (.take 1 (.alt 2 (.alt 3 (.take 4 .done) .done) .done))) (EI [] (EI [] (AI rfl (AI TV (OL (AI TV (OL ?_))))))))
   cases sE q
   refine AI rfl (E4 [(0,some 0),(1,some 1),(2,none),(3,none),(4,none),(5,none)] (R2 (AI (R2 TV) (R6 TV))))
  refine OL (EI (.take 0 (.take 1 (.take 2 (.take 3 (.take 4 (.take 5 (.take 6 (.take 7 (.take 8 (.alt 9 (.alt 10 .done .done) .done)))))))))) (EI [] (EI [] (AI rfl (gI q (fun q=>?_))))))
  refine AI TV (AI TV (OL (OL (OL ?_))))
  obtain ⟨z4,hz4,q⟩ := bE q
  refine OQ ⟨[(0,⟨[(5,P0 2 0),(6,P0 3 0),(7,P0 4 0),(9,P0 5 0),(10,P0 6 0),(11,P0 7 0),(12,P0 8 0)],[(0,.cells [(.osl 1)]),(1,.arr 45 T0 t_L),(2,.cells [(.d T1 g.1),(.d T1 g.2)]),(3,.cells [N0,N0]),(4,.cells [N0,N0]),(5,.cells [N0,N0]),(6,.cells [(.d T2 ((rd (Ty.z T0) t_L n).1)),(.d T2 (((rd (Ty.z T0) t_L n).2).1)),(.d T2 ((((rd (Ty.z T0) t_L n).2).2).1)),(.d T2 (((((rd (Ty.z T0) t_L n).2).2).2).1)),(.d T1 ((((((rd (Ty.z T0) t_L n).2).2).2).2).1)),(.d T1 ((((((rd (Ty.z T0) t_L n).2).2).2).2).2))]),(7,.cells [(.d T1 ((((((rd (Ty.z T0) t_L (((rd (Ty.z T0) t_L n).2).1)).2).2).2).2).1)),(.d T1 ((((((rd (Ty.z T0) t_L (((rd (Ty.z T0) t_L n).2).1)).2).2).2).2).2))]),(8,.cells [(.d T1 z4.1),(.d T1 z4.2)])],9⟩)],?_,?_⟩
  ·have q := hz4
   clear hz4
   unfold f76_j4 at q
   refine OL (cI q (fun q=>?_) (fun q=>?_))
   ·refine EI (.take 0 (.take 1 (.take 2 (.take 3 (.take 4 (.take 5 (.take 6 (.take 7 (.take 8 (.alt 9 .done .done)))))))))) (EI [] (EI [] (AI rfl (gI q (fun q=>?_)))))
    refine AI TV (OL ?_)
    cases sE q
    refine E4 I9 (AI rfl (AI (R7 TV) (R9 TV)))
   cases sE q
   refine EI [] (EI [] (EI [(8,0,T2),(8,1,T2)] (EI [] (EI I9 (AI rfl (AI (R7 TV) (R9 TV)))))))
  refine AI (OL (OL (OL (cI q (fun q=>?_) (fun q=>?_))))) TV
  ·refine OL (EI (.take 0 (.take 1 (.take 2 (.take 4 (.take 5 (.take 6 (.alt 3 (.alt 7 (.alt 8 (.alt 9 (.take 10 .done) .done) .done) .done) .done))))))) (EI [] (EI [] (AI rfl (AI TV ?_)))))
   obtain ⟨q13_3,hq13_3,q⟩ := bE q
   refine OL (AI f114_in (cV (cQ C114 ((g.1,g.2),(((((rd (Ty.z T0) t_L (((rd (Ty.z T0) t_L n).2).1)).2).2).2).2).1) q13_3 [] false C114_holds hq13_3 rfl rfl (R3 (K0 (AI TV ?_))))))
   obtain ⟨q13_7,hq13_7,q⟩ := bE q
   refine OL (AI f114_in (cV (cQ C114 ((g.1,g.2),z4.1) q13_7 [] false C114_holds hq13_7 rfl rfl (R3 (K0 (AI TV (OL (AI TV (OL ?_)))))))))
   cases sE q
   refine AI rfl (E4 [(0,some 0),(1,some 1),(2,some 9),(3,some 10),(4,some 11),(5,some 12)] (R2 (AI (R2 TV) (R6 TV))))
  refine OL (cI q (fun q=>?_) (fun q=>?_))
  ·refine OL ?_
   obtain ⟨q13_10,hq13_10,q⟩ := bE q
   have hq13_10 : C115.F ((g.1,g.2),(-4294967296:Int)) = some q13_10 := hq13_10
   refine OL (AI f115_in (cV (cQ C115 _ q13_10 [] false C115_holds hq13_10 rfl rfl (R3 (K0 (OL (OL (EI (.take 0 (.take 1 (.take 2 (.take 4 (.take 5 (.take 6 (.alt 3 (.alt 7 (.alt 8 (.alt 9 (.take 10 .done) .done) .done) .done) .done))))))) (EI [] (EI [] (AI rfl (AI TV ?_))))))))))))
   obtain ⟨q16_3,hq16_3,q⟩ := bE q
   refine OL (AI f114_in (cV (cQ C114 ((g.1,g.2),(((((rd (Ty.z T0) t_L (((rd (Ty.z T0) t_L n).2).1)).2).2).2).2).1) q16_3 [] false C114_holds hq16_3 rfl rfl (R3 (K0 (AI TV ?_))))))
   obtain ⟨q16_7,hq16_7,q⟩ := bE q
   refine OL (AI f114_in (cV (cQ C114 ((q13_10.2.1,q13_10.2.2),z4.1) q16_7 [] true C114_holds hq16_7 rfl rfl (R3 (AI (fun _=>rfl) (R2 (AI TV (AI TV (AI TV (OL (AI TV (OL ?_))))))))))))
   cases sE q
   refine AI rfl (E4 [(0,some 0),(1,some 1),(2,some 12),(3,some 13),(4,some 14),(5,some 15)] (R2 (AI (R2 TV) (R6 TV))))
  refine OL (cI q (fun q=>?_) (fun q=>?_))
  ·refine OL ?_
   obtain ⟨q16_10,hq16_10,q⟩ := bE q
   refine OL (AI f77_in (cV (cQ C77 ((2:Int),(g.1,g.2),(z4.1,z4.2)) q16_10 [] false C77_holds hq16_10 rfl rfl (R5 (K0 (OL (OL ?_)))))))
   obtain ⟨r5,hr5,q⟩ := bE q
   refine OL (AI f77_in (cV (cQ C77 ((2:Int),(g.1,g.2),((((((rd (Ty.z T0) t_L (((rd (Ty.z T0) t_L n).2).1)).2).2).2).2).1,(((((rd (Ty.z T0) t_L (((rd (Ty.z T0) t_L n).2).1)).2).2).2).2).2)) r5 [] false C77_holds hr5 rfl rfl (R5 (K0 (OL (OL (EI (.take 0 (.take 1 (.take 2 (.take 4 (.take 5 (.take 6 (.alt 3 (.alt 7 (.alt 8 (.alt 9 (.take 10 .done) .done) .done) .done) .done))))))) (EI [] (EI [] (AI rfl (AI TV ?_))))))))))))
   obtain ⟨q20_3,hq20_3,q⟩ := bE q
   refine OL (AI f114_in (cV (cQ C114 ((q16_10.2.1,q16_10.2.2),(((((rd (Ty.z T0) t_L (((rd (Ty.z T0) t_L n).2).1)).2).2).2).2).1) q20_3 [] true C114_holds hq20_3 rfl rfl (R3 (AI (fun _=>rfl) (R2 (AI TV (AI TV (AI TV ?_)))))))))
   obtain ⟨q20_7,hq20_7,q⟩ := bE q
   refine OL (AI f114_in (cV (cQ C114 ((r5.2.1,r5.2.2),z4.1) q20_7 [] true C114_holds hq20_7 rfl rfl (R3 (AI (fun _=>rfl) (R2 (AI TV (AI TV (AI TV (OL (AI TV (OL ?_))))))))))))
   cases sE q
   refine AI rfl (E4 [(0,some 0),(1,some 1),(2,some 15),(3,some 16),(4,some 17),(5,some 18)] (R2 (AI (R2 TV) (R6 TV))))
  refine OL (cI q (fun q=>?_) (fun q=>?_))
  ·refine OL ?_
   obtain ⟨q20_10,hq20_10,q⟩ := bE q
   refine OL (AI f115_in (cV (cQ C115 ((g.1,g.2),((((rd (Ty.z T0) t_L n).2).2).2).1) q20_10 [] false C115_holds hq20_10 rfl rfl (R3 (K0 (OL (OL (EI (.take 0 (.take 1 (.alt 2 (.alt 3 (.take 4 .done) .done) .done))) (EI [] (EI [] (AI rfl (AI TV (OL (AI TV (OL ?_)))))))))))))))
   cases sE q
   refine AI rfl (E4 [(0,some 0),(1,some 1),(2,some 9),(3,some 10),(4,none),(5,none)] (R2 (AI (R2 TV) (R6 TV))))
  refine OL (cI q (fun q=>?_) (fun q=>?_))
  ·refine OL ?_
   obtain ⟨q23_4,hq23_4,q⟩ := bE q
   refine OL (AI f116_in (cV (cQ C116 (z4.1,z4.2) q23_4 [] false C116_holds hq23_4 rfl rfl (R2 (K0 (OL (OL ?_)))))))
   obtain ⟨r6,hr6,q⟩ := bE q
   refine OL (AI f116_in (cV (cQ C116 ((((((rd (Ty.z T0) t_L (((rd (Ty.z T0) t_L n).2).1)).2).2).2).2).1,(((((rd (Ty.z T0) t_L (((rd (Ty.z T0) t_L n).2).1)).2).2).2).2).2) r6 [] false C116_holds hr6 rfl rfl (R2 (K0 (OL (OL ?_)))))))
   obtain ⟨r7,hr7,q⟩ := bE q
   refine OL (AI f117_in (cV (cQ C117 ((g.1,g.2),(q23_4.2.1,q23_4.2.2)) r7 [] true C117_holds hr7 rfl rfl (R4 (AI (fun _=>rfl) (R2 (AI TV (AI TV (OL (OL ?_))))))))))
   obtain ⟨r8,hr8,q⟩ := bE q
   refine OL (AI f117_in (cV (cQ C117 ((r6.2.1,r6.2.2),(g.1,g.2)) r8 [] true C117_holds hr8 rfl rfl (R4 (AI (fun _=>rfl) (R2 (AI TV (AI TV (OL (OL (EI (.take 0 (.take 1 (.alt 2 (.alt 3 (.take 4 .done) .done) .done))) (EI [] (EI [] (AI rfl (AI TV (OL (AI TV (OL ?_))))))))))))))))))
   cases sE q
   refine AI rfl (E4 [(0,some 0),(1,some 1),(2,some 15),(3,some 16),(4,some 18),(5,some 19)] (R2 (AI (R2 TV) (R6 TV))))
  refine OL (cI q (fun q=>?_) (fun q=>?_))
  ·refine OL ?_
   obtain ⟨q29_4,hq29_4,q⟩ := bE q
   refine OL (AI f116_in (cV (cQ C116 (g.1,g.2) q29_4 [] false C116_holds hq29_4 rfl rfl (R2 (K0 (OL (OL (EI (.take 0 (.take 1 (.alt 2 (.alt 3 (.take 4 .done) .done) .done))) (EI [] (EI [] (AI rfl (AI TV (OL (AI TV (OL ?_)))))))))))))))
   cases sE q
   refine AI rfl (E4 [(0,some 0),(1,some 1),(2,some 9),(3,some 10),(4,none),(5,none)] (R2 (AI (R2 TV) (R6 TV))))
  refine OL (cI q (fun q=>?_) (fun q=>?_))
  ·refine OL ?_
   obtain ⟨q32_4,hq32_4,q⟩ := bE q
   refine OL (AI f71_in (cV (cQ C71 ((((((rd (Ty.z T0) t_L (((rd (Ty.z T0) t_L n).2).1)).2).2).2).2).1,(0:Int)) q32_4 [] false C71_holds hq32_4 rfl rfl (R2 (K0 (OL (OL (OL (OL ?_)))))))))
   obtain ⟨z11,hz11,q⟩ := bE q
   refine lI (Int×LI) LI (fun x=>⟨[(5,P0 2 0),(6,P0 3 0),(7,P0 4 0),(9,P0 5 0),(11,P0 6 0),(31,P0 7 0),(32,.dat T2 (((((rd (Ty.z T0) t_L n).2).2).2).1)),(33,.dat T2 x.1)],[(0,.cells [(.osl 1)]),(1,.arr 45 T0 t_L),(2,.cells [(.d T1 g.1),(.d T1 g.2)]),(3,.cells [N0,N0]),(4,.cells [N0,N0]),(5,.cells [N0,N0]),(6,.cells [(.d T1 ((((((rd (Ty.z T0) t_L (((rd (Ty.z T0) t_L n).2).1)).2).2).2).2).1)),(.d T1 ((((((rd (Ty.z T0) t_L (((rd (Ty.z T0) t_L n).2).1)).2).2).2).2).2))]),(7,.cells [(.osl 8),(.osl 9)]),(8,.arr 3 T2 q32_4.1),(9,.arr 40 T2 x.2)],10⟩) (fun z=>[(3,⟨[(6,P0 2 0),(7,P0 3 0),(9,P0 4 0),(31,P0 5 0)],[(0,.cells [(.osl 1)]),(1,.arr 45 T0 t_L),(2,.cells [N0,N0]),(3,.cells [N0,N0]),(4,.cells [N0,N0]),(5,.cells [(.osl 6),(.osl 7)]),(6,.arr 3 T2 q32_4.1),(7,.arr 40 T2 z)],8⟩)]) (loopF (fun go x=>f76_l5 t_L n g go x.1 x.2)) fuelN ((0:Int),q32_4.2) z11 (AI hz11 (AI (E4 [(0,some 0),(1,some 1),(2,some 2),(3,some 3),(4,some 4),(5,some 5),(6,some 7),(7,some 11),(8,some 9),(9,some 10)] (R3 (AI (R6 TV) (R10 TV)))) (AI (fun _ _ h=>lZ h) (AI (fun m=>curI (fun i=>fun l9 z q=>?_)) ?_))))
   ·have q : f76_l5 t_L n g (loopF (fun go x=>f76_l5 t_L n g go x.1 x.2) m) i l9 = some z := q
    unfold f76_l5 at q
    refine OL (OL (cI q (fun q=>?_) (fun q=>?_)))
    ·refine OL (OL ?_)
     obtain ⟨r12,hr12,q⟩ := bE q
     refine OL (AI f118_in (cV (cQ C118 ((((((rd (Ty.z T0) t_L (((rd (Ty.z T0) t_L n).2).1)).2).2).2).2).1,i) r12 [] false C118_holds hr12 rfl rfl (R2 (K0 (OL (EI (.take 1 (.take 2 (.take 3 (.take 5 (.take 6 (.take 7 (.take 8 (.alt 0 (.alt 4 (.alt 9 (.take 10 .done) .done) .done) .done)))))))) (EI [] (EI [10] (AI rfl (gI q (fun q=>?_))))))))))))
     refine gI q (fun q=>?_)
     refine AI TV (OL (AI TV (OL (gI q (fun q=>?_)))))
     refine AI TV (OL (gI q (fun q=>?_)))
     refine OL ?_
     obtain ⟨q40_10,hq40_10,q⟩ := bE q
     refine OL (AI f119_in (cV (cQ C119 (g.1,((([] : LI) ++ (List.take (Int.toNat (((((rd (Ty.z T0) t_L n).2).2).2).1)) r12.2)) ++ (List.drop (Int.toNat (i64.wrap ((((((rd (Ty.z T0) t_L n).2).2).2).1) + (1:Int)))) r12.2))) q40_10 [] true C119_holds hq40_10 rfl rfl (R2 (AI (fun _=>rfl) (R2 (AI TV (AI TV (EI (.take 0 (.take 1 (.take 2 (.take 3 (.take 4 (.take 5 (.take 6 (.take 7 (.take 8 (.alt 9 .done .done)))))))))) (EI [] (EI [] (AI rfl (gI q (fun q=>?_))))))))))))))
     refine gI q (fun q=>?_)
     refine AI TV (OL (EI ((i64.wrap (i + (1:Int))),(List.set l9 (Int.toNat i) (rd (0:Int) g.2 q40_10.1))) (AI q (E4 I10 (R3 (AI (R6 TV) (R10 TV)))))))
    cases sE q
    refine E4 [(0,some 0),(1,some 1),(2,some 3),(3,some 4),(4,some 5),(5,some 7),(6,some 8),(7,some 9)] (AI rfl (AI (R4 TV) (R8 TV)))
   refine AI (OL (EI (.take 0 (.take 1 (.alt 2 (.alt 3 (.take 4 .done) .done) .done))) (EI [] (EI [] (AI rfl (AI TV (OL (AI TV (OL ?_))))))))) TV
   cases sE q
   refine AI rfl (E4 [(0,some 0),(1,some 1),(2,some 6),(3,some 7),(4,none),(5,none)] (R2 (AI (R2 TV) (R6 TV))))
  refine OL (cI q (fun q=>?_) (fun q=>?_))
  ·refine OL (EI (.take 0 (.take 1 (.take 2 (.take 3 (.take 4 (.take 5 (.take 7 (.alt 6 (.alt 8 (.alt 9 (.take 10 .done) .done) .done) .done)))))))) (EI [] (EI [] (AI rfl (gI q (fun q=>?_))))))
   refine AI TV ?_
   obtain ⟨q45_6,hq45_6,q⟩ := bE q
   refine OL (AI f71_in (cV (cQ C71 ((((((rd (Ty.z T0) t_L (((rd (Ty.z T0) t_L n).2).1)).2).2).2).2).1,(rd (0:Int) g.2 (0:Int))) q45_6 [] false C71_holds hq45_6 rfl rfl (R2 (K0 (AI TV (OL (AI TV (OL ?_)))))))))
   cases sE q
   refine AI rfl (E4 [(0,some 0),(1,some 1),(2,some 9),(3,some 10),(4,none),(5,none)] (R2 (AI (R2 TV) (R6 TV))))
  refine OL (cI q (fun q=>?_) (fun q=>?_))
  ·refine OL (EI (.take 0 (.take 1 (.take 2 (.take 3 (.take 5 (.take 6 (.take 7 (.alt 4 (.alt 8 (.alt 9 (.take 10 .done) .done) .done) .done)))))))) (EI [] (EI [] (AI rfl (gI q (fun q=>?_))))))
   refine AI TV ?_
   obtain ⟨q47_4,hq47_4,q⟩ := bE q
   refine OL (AI f87_in (cV (cQ C87 (rd (0:Int) g.2 (0:Int)) q47_4 [] false C87_holds hq47_4 rfl rfl (AI rfl (K0 (AI TV ?_))))))
   obtain ⟨q47_8,hq47_8,q⟩ := bE q
   refine OL (AI f121_in (cV (cQ C121 (q47_4.1,q47_4.2,(0:Int),(0:Int),(0:Int),(List.length ((((((rd (Ty.z T0) t_L (((rd (Ty.z T0) t_L n).2).1)).2).2).2).2).2):Int)) q47_8 [] false C121_holds hq47_8 rfl rfl (AI rfl (AI NH (R2 (AJ (AI TV (AI TV ?_)))))))))
   obtain ⟨q47_9,hq47_9,q⟩ := bE q
   refine OL (AI f120_in (cV (cQ C120 (q47_8.1,q47_8.2.1,q47_8.2.2.1,q47_8.2.2.2.1,q47_8.2.2.2.2) q47_9 [] false C120_holds hq47_9 rfl rfl (AI NH (R2 (AJ (AI TV (OL (EI (.take 0 (.take 1 (.take 2 (.take 4 (.alt 3 (.alt 5 (.alt 6 (.take 7 .done) .done) .done) .done))))) (EI [] (EI [] (AI rfl (AI TV ?_)))))))))))))
   obtain ⟨q48_3,hq48_3,q⟩ := bE q
   refine OL (AI f71_in (cV (cQ C71 ((((((rd (Ty.z T0) t_L (((rd (Ty.z T0) t_L n).2).1)).2).2).2).2).1,q47_9) q48_3 [] false C71_holds hq48_3 rfl rfl (R2 (K0 (AI TV (OL (AI TV (OL ?_)))))))))
   cases sE q
   refine AI rfl (E4 [(0,some 0),(1,some 1),(2,some 9),(3,some 10),(4,none),(5,none)] (R2 (AI (R2 TV) (R6 TV))))
  refine OL (cI q (fun q=>?_) (fun q=>?_))
  ·refine OL ?_
   obtain ⟨q48_7,hq48_7,q⟩ := bE q
   refine OL (AI f122_in (cV (cQ C122 (((((rd (Ty.z T0) t_L n).2).2).2).1,((((((rd (Ty.z T0) t_L (((rd (Ty.z T0) t_L n).2).1)).2).2).2).2).1,(((((rd (Ty.z T0) t_L (((rd (Ty.z T0) t_L n).2).1)).2).2).2).2).2),(g.1,g.2)) q48_7 [] false C122_holds hq48_7 rfl rfl (R5 (K0 (OL (OL (EI (.take 0 (.take 1 (.alt 2 (.alt 3 (.take 4 .done) .done) .done))) (EI [] (EI [] (AI rfl (AI TV (OL (AI TV (OL ?_)))))))))))))))
   cases sE q
   refine AI rfl (E4 [(0,some 0),(1,some 1),(2,some 9),(3,some 10),(4,none),(5,none)] (R2 (AI (R2 TV) (R6 TV))))
  refine OL (cI q (fun q=>?_) (fun q=>?_))
  ·obtain ⟨z13,hz13,q⟩ := bE q
   refine OQ ⟨[(0,⟨[(5,P0 2 0),(6,P0 3 0),(7,P0 4 0),(10,P0 5 0),(11,P0 6 0),(12,P0 7 0),(42,P0 8 0)],[(0,.cells [(.osl 1)]),(1,.arr 45 T0 t_L),(2,.cells [(.d T1 g.1),(.d T1 g.2)]),(3,.cells [N0,N0]),(4,.cells [N0,N0]),(5,.cells [(.d T2 ((rd (Ty.z T0) t_L n).1)),(.d T2 (((rd (Ty.z T0) t_L n).2).1)),(.d T2 ((((rd (Ty.z T0) t_L n).2).2).1)),(.d T2 (((((rd (Ty.z T0) t_L n).2).2).2).1)),(.d T1 ((((((rd (Ty.z T0) t_L n).2).2).2).2).1)),(.d T1 ((((((rd (Ty.z T0) t_L n).2).2).2).2).2))]),(6,.cells [(.d T1 ((((((rd (Ty.z T0) t_L (((rd (Ty.z T0) t_L n).2).1)).2).2).2).2).1)),(.d T1 ((((((rd (Ty.z T0) t_L (((rd (Ty.z T0) t_L n).2).1)).2).2).2).2).2))]),(7,.cells [(.d T1 z4.1),(.d T1 z4.2)]),(8,.cells [(.osl 9),(.osl 10)]),(9,.arr 3 T2 z13.1),(10,.arr 40 T2 z13.2)],11⟩)],?_,?_⟩
   ·have q := hz13
    clear hz13
    unfold f76_j6 at q
    obtain ⟨g53_0,q⟩ := gE q
    obtain ⟨q53_8,hq53_8,q⟩ := bE q
    refine EI (.take 0 (.take 1 (.take 2 (.take 3 (.take 4 (.take 5 (.take 6 (.take 7 (.alt 8 (.take 9 (.take 10 (.take 11 (.alt 12 (.alt 13 (.take 14 .done) .done) .done)))) (.alt 12 (.alt 8 (.take 9 (.take 10 (.take 11 (.alt 13 (.take 14 .done) .done)))) .done) .done)))))))))) (EI [] (EI [] (AI rfl (AI g53_0 (AI (AI TV ?_) ?_)))))
    ·refine AI TV (OL (AI f123_in (cV (cQ C123 ((g.1,g.2),(z4.1,z4.2),((((rd (Ty.z T0) t_L n).2).2).2).1,(rd (0:Int) ((((((rd (Ty.z T0) t_L (((rd (Ty.z T0) t_L n).2).1)).2).2).2).2).1) (1:Int))) q53_8 [] false C123_holds hq53_8 rfl rfl (R6 (K0 (AI TV (OL ?_))))))))
     cases sE q
     refine E4 [(0,some 0),(1,some 1),(2,some 2),(3,some 3),(4,some 4),(5,some 6),(6,some 7),(7,some 8),(8,some 9),(9,some 10),(10,some 11)] (AI rfl (AI (R7 TV) (R11 TV)))
    refine OL (AI f123_in (cV (cQ C123 ((g.1,g.2),(z4.1,z4.2),((((rd (Ty.z T0) t_L n).2).2).2).1,(rd (0:Int) ((((((rd (Ty.z T0) t_L (((rd (Ty.z T0) t_L n).2).1)).2).2).2).2).1) (1:Int))) q53_8 [] false C123_holds hq53_8 rfl rfl (R6 (K0 (AI TV (AI TV (OL ?_))))))))
    cases sE q
    refine E4 [(0,some 0),(1,some 1),(2,some 2),(3,some 3),(4,some 4),(5,some 6),(6,some 7),(7,some 8),(8,some 11),(9,some 9),(10,some 10)] (AI rfl (AI (R7 TV) (R11 TV)))
   refine AI ?_ TV
   obtain ⟨z14,hz14,q⟩ := bE q
   refine OQ ⟨[(0,⟨[(6,P0 2 0),(7,P0 3 0),(42,P0 4 0),(44,P0 5 0)],[(0,.cells [(.osl 1)]),(1,.arr 45 T0 t_L),(2,.cells [N0,N0]),(3,.cells [N0,N0]),(4,.cells [(.osl 6),(.osl 7)]),(5,.cells [(.osl 8),(.osl 9)]),(6,.arr 3 T2 z13.1),(7,.arr 40 T2 z13.2),(8,.arr 3 T2 z14.1),(9,.arr 40 T2 z14.2)],10⟩)],?_,?_⟩
   ·have q := hz14
    clear hz14
    unfold f76_j7 at q
    obtain ⟨g54_0,q⟩ := gE q
    obtain ⟨q54_8,hq54_8,q⟩ := bE q
    refine EI (.take 0 (.take 1 (.take 2 (.take 3 (.take 4 (.take 5 (.take 6 (.take 7 (.alt 8 (.take 9 (.take 10 (.take 11 (.alt 12 (.alt 13 (.take 14 .done) .done) .done)))) (.alt 12 (.alt 8 (.take 9 (.take 10 (.take 11 (.alt 13 (.take 14 .done) .done)))) .done) .done)))))))))) (EI [] (EI [] (AI rfl (AI g54_0 (AI (AI TV ?_) ?_)))))
    ·refine AI TV (OL (AI f124_in (cV (cQ C124 ((g.1,g.2),((((((rd (Ty.z T0) t_L (((rd (Ty.z T0) t_L n).2).1)).2).2).2).2).1,(((((rd (Ty.z T0) t_L (((rd (Ty.z T0) t_L n).2).1)).2).2).2).2).2),((((rd (Ty.z T0) t_L n).2).2).2).1,(rd (0:Int) z4.1 (2:Int))) q54_8 [] false C124_holds hq54_8 rfl rfl (R6 (K0 (AI TV (OL ?_))))))))
     cases sE q
     refine E4 [(0,some 0),(1,some 1),(2,some 3),(3,some 4),(4,some 8),(5,some 11),(6,some 9),(7,some 10),(8,some 12),(9,some 13)] (AI rfl (AI (R4 TV) (R10 TV)))
    refine OL (AI f124_in (cV (cQ C124 ((g.1,g.2),((((((rd (Ty.z T0) t_L (((rd (Ty.z T0) t_L n).2).1)).2).2).2).2).1,(((((rd (Ty.z T0) t_L (((rd (Ty.z T0) t_L n).2).1)).2).2).2).2).2),((((rd (Ty.z T0) t_L n).2).2).2).1,(rd (0:Int) z4.1 (2:Int))) q54_8 [] false C124_holds hq54_8 rfl rfl (R6 (K0 (AI TV (AI TV (OL ?_))))))))
    cases sE q
    refine E4 [(0,some 0),(1,some 1),(2,some 3),(3,some 4),(4,some 8),(5,some 13),(6,some 9),(7,some 10),(8,some 11),(9,some 12)] (AI rfl (AI (R4 TV) (R10 TV)))
   refine AI (OL (EI (.take 0 (.take 1 (.alt 2 (.alt 3 (.take 4 .done) .done) .done))) (EI [] (EI [] (AI rfl (AI TV (OL (AI TV (OL ?_))))))))) TV
   cases sE q
   refine AI rfl (E4 [(0,some 0),(1,some 1),(2,some 6),(3,some 7),(4,some 8),(5,some 9)] (R2 (AI (R2 TV) (R6 TV))))
  refine OL (cI q (fun q=>?_) (fun q=>?_))
  ·refine OL ?_
   obtain ⟨q55_4,hq55_4,q⟩ := bE q
   refine OL (AI f71_in (cV (cQ C71 ((((((rd (Ty.z T0) t_L (((rd (Ty.z T0) t_L n).2).1)).2).2).2).2).1,(0:Int)) q55_4 [] false C71_holds hq55_4 rfl rfl (R2 (K0 (OL (OL ?_)))))))
   obtain ⟨r15,hr15,q⟩ := bE q
   refine OL (AI f125_in (cV (cQ C125 (((((((rd (Ty.z T0) t_L (((rd (Ty.z T0) t_L n).2).1)).2).2).2).2).1,(((((rd (Ty.z T0) t_L (((rd (Ty.z T0) t_L n).2).1)).2).2).2).2).2),((((rd (Ty.z T0) t_L n).2).2).2).1) r15 [] false C125_holds hr15 rfl rfl (R3 (K0 (OL (OL (OL ?_))))))))
   obtain ⟨z16,hz16,q⟩ := bE q
   refine lI (Int×LI) LI (fun x=>⟨[(5,P0 2 0),(6,P0 3 0),(7,P0 4 0),(9,P0 5 0),(46,P0 6 0),(48,O0 7),(50,.dat T2 x.1)],[(0,.cells [(.osl 1)]),(1,.arr 45 T0 t_L),(2,.cells [(.d T1 g.1),(.d T1 g.2)]),(3,.cells [N0,N0]),(4,.cells [N0,N0]),(5,.cells [N0,N0]),(6,.cells [(.osl 8),(.osl 9)]),(7,.arr 3 T2 r15.2.2.2),(8,.arr 3 T2 q55_4.1),(9,.arr 40 T2 x.2)],10⟩) (fun z=>[(5,⟨[(6,P0 2 0),(7,P0 3 0),(9,P0 4 0),(46,P0 5 0)],[(0,.cells [(.osl 1)]),(1,.arr 45 T0 t_L),(2,.cells [N0,N0]),(3,.cells [N0,N0]),(4,.cells [N0,N0]),(5,.cells [(.osl 6),(.osl 7)]),(6,.arr 3 T2 q55_4.1),(7,.arr 40 T2 z)],8⟩)]) (loopF (fun go x=>f76_l8 g r15 go x.1 x.2)) fuelN ((0:Int),q55_4.2) z16 (AI hz16 (AI (E4 [(0,some 0),(1,some 1),(2,some 2),(3,some 3),(4,some 4),(5,some 5),(6,some 11),(7,some 14),(8,some 9),(9,some 10)] (R2 (AI (R6 TV) (R10 TV)))) (AI (fun _ _ h=>lZ h) (AI (fun m=>curI (fun i=>fun l9 z q=>?_)) ?_))))
   ·have q : f76_l8 g r15 (loopF (fun go x=>f76_l8 g r15 go x.1 x.2) m) i l9 = some z := q
    unfold f76_l8 at q
    refine OL (OL (cI q (fun q=>?_) (fun q=>?_)))
    ·refine OL (EI (.take 0 (.take 1 (.take 2 (.take 3 (.take 4 (.take 5 (.take 6 (.take 7 (.take 8 (.take 9 (.take 10 (.take 11 (.alt 12 .done .done))))))))))))) (EI [] (EI [] (AI rfl (gI q (fun q=>?_))))))
     refine gI q (fun q=>?_)
     refine gI q (fun q=>?_)
     refine AI TV (OL (EI ((i64.wrap (i + (1:Int))),(List.set l9 (Int.toNat (rd (0:Int) r15.2.2.2 i)) (rd (0:Int) g.2 i))) (AI q (E4 I10 (R2 (AI (R6 TV) (R10 TV)))))))
    cases sE q
    refine E4 [(0,some 0),(1,some 1),(2,some 3),(3,some 4),(4,some 5),(5,some 6),(6,some 8),(7,some 9)] (AI rfl (AI (R4 TV) (R8 TV)))
   refine AI (OL (EI (.take 0 (.take 1 (.alt 2 (.alt 3 (.take 4 .done) .done) .done))) (EI [] (EI [] (AI rfl (AI TV (OL (AI TV (OL ?_))))))))) TV
   cases sE q
   refine AI rfl (E4 [(0,some 0),(1,some 1),(2,some 6),(3,some 7),(4,none),(5,none)] (R2 (AI (R2 TV) (R6 TV))))
  refine OL ?_
  obtain ⟨q63_4,hq63_4,q⟩ := bE q
  refine OL (AI f126_in (cV (cQ C126 ((g.1,g.2),(((((rd (Ty.z T0) t_L (((rd (Ty.z T0) t_L n).2).1)).2).2).2).2).1) q63_4 [] false C126_holds hq63_4 rfl rfl (R3 (K0 (OL (OL (EI (.take 0 (.take 1 (.alt 2 (.alt 3 (.take 4 .done) .done) .done))) (EI [] (EI [] (AI rfl (AI TV (OL (AI TV (OL ?_)))))))))))))))
  cases sE q
  refine AI rfl (E4 [(0,some 0),(1,some 1),(2,some 9),(3,some 10),(4,none),(5,none)] (R2 (AI (R2 TV) (R6 TV))))
 dsimp only [sumF] at q
 refine AI ?_ TV
 cases sE q
 refine AI rfl (E4 [(0,some 0),(1,some 1),(2,none),(3,none),(4,none),(5,none)] (R2 (AI (R2 TV) (R6 TV))))
theorem C76_holds : HP C76 76 := hH Tryz.f76 (by kernel_rfl) rfl (fun x y q=>C76_vc x.1 x.2.1 x.2.2 y q)
theorem f76_in : InP 76 := inP (by kernel_rfl)
def f27_j1 (t_L : NL) (root:Int) : Option (Sum Unit Unit) :=
 bif (decide (root < (0:Int))) then
 some (Sum.inr ())
 else
 bif (decide (root ≥ (List.length t_L:Int))) then
 some (Sum.inr ())
 else
 some (Sum.inl ())
def f27_l2 (t_L : NL) (root:Int) (go : (Int×(List (LI×LI))×Int×LI×LI) → Option ((List (LI×LI))×Int×LI×LI)) (i:Int) (l2 : List (LI×LI)) (i2:Int) (l4 : LI) (l5 : LI) : Option ((List (LI×LI))×Int×LI×LI) :=
 bif (decide (i ≤ root)) then
 guardF (0 ≤ i ∧ i < (List.length t_L:Int)) <|
 bindF (f71 ((((((rd (Ty.z T0) t_L i).2).2).2).2).1) (0:Int)) fun r6 =>
 guardF (0 ≤ i ∧ i < (List.length l2:Int)) <|
 go ((i64.wrap (i + (1:Int))),(List.set l2 (Int.toNat i2) (l4,l5)),i,r6.1,r6.2)
 else
 some (l2,i2,l4,l5)
def f27_j6 (i:Int) (l3 : List Bool) (l1 : NL) : Option (Sum Unit Unit) :=
 guardF (0 ≤ i ∧ i < (List.length l3:Int)) <|
 bif (!(rd false l3 i)) then
 some (Sum.inr ())
 else
 bif (((rd (Ty.z T0) l1 i).1) == (1:Int)) then
 some (Sum.inr ())
 else
 some (Sum.inl ())
def f27_l5 (go : (Int×(List (LI×LI))×(List Bool)×NL) → Option ((List (LI×LI))×NL)) (i:Int) (l2 : List (LI×LI)) (l3 : List Bool) (l1 : NL) : Option ((List (LI×LI))×NL) :=
 bif (decide (i ≥ (0:Int))) then
 guardF (0 ≤ i ∧ i < (List.length l1:Int)) <|
 bindF (f27_j6 i l3 l1) fun z11 =>
 sumF z11 (fun z11a =>
 guardF (0 ≤ i ∧ i < (List.length l2:Int)) <|
 bindF (f76 l1 i ((rd (Ty.z T3) l2 i).1,(rd (Ty.z T3) l2 i).2)) fun q22_14 =>
 guardF (0 ≤ ((rd (Ty.z T0) l1 i).2).1 ∧ ((rd (Ty.z T0) l1 i).2).1 < (List.length l2:Int)) <|
 bindF (f77 (0:Int) ((rd (Ty.z T3) l2 (((rd (Ty.z T0) l1 i).2).1)).1,(rd (Ty.z T3) l2 (((rd (Ty.z T0) l1 i).2).1)).2) (q22_14.2.1,q22_14.2.2.1)) fun q19_9 =>
 guardF (0 ≤ ((rd (Ty.z T0) l1 i).2).1 ∧ ((rd (Ty.z T0) l1 i).2).1 < (List.length l2:Int)) <|
 guardF (0 ≤ ((rd (Ty.z T0) l1 i).2).1 ∧ ((rd (Ty.z T0) l1 i).2).1 < (List.length l3:Int)) <|
 bif (decide (((((rd (Ty.z T0) l1 i).2).2).1) ≥ (0:Int))) then
 guardF (0 ≤ (((rd (Ty.z T0) l1 i).2).2).1 ∧ (((rd (Ty.z T0) l1 i).2).2).1 < (List.length (List.set l2 (Int.toNat (((rd (Ty.z T0) l1 i).2).1)) (q19_9.2.1,q19_9.2.2)):Int)) <|
 bindF (f77 (0:Int) ((rd (Ty.z T3) (List.set l2 (Int.toNat (((rd (Ty.z T0) l1 i).2).1)) (q19_9.2.1,q19_9.2.2)) ((((rd (Ty.z T0) l1 i).2).2).1)).1,(rd (Ty.z T3) (List.set l2 (Int.toNat (((rd (Ty.z T0) l1 i).2).1)) (q19_9.2.1,q19_9.2.2)) ((((rd (Ty.z T0) l1 i).2).2).1)).2) (q22_14.2.2.2.1,q22_14.2.2.2.2.1)) fun q22_9 =>
 guardF (0 ≤ (((rd (Ty.z T0) l1 i).2).2).1 ∧ (((rd (Ty.z T0) l1 i).2).2).1 < (List.length (List.set l2 (Int.toNat (((rd (Ty.z T0) l1 i).2).1)) (q19_9.2.1,q19_9.2.2)):Int)) <|
 guardF (0 ≤ (((rd (Ty.z T0) l1 i).2).2).1 ∧ (((rd (Ty.z T0) l1 i).2).2).1 < (List.length (List.set l3 (Int.toNat (((rd (Ty.z T0) l1 i).2).1)) true):Int)) <|
 go ((i64.wrap (i - (1:Int))),(List.set (List.set l2 (Int.toNat (((rd (Ty.z T0) l1 i).2).1)) (q19_9.2.1,q19_9.2.2)) (Int.toNat ((((rd (Ty.z T0) l1 i).2).2).1)) (q22_9.2.1,q22_9.2.2)),(List.set (List.set l3 (Int.toNat (((rd (Ty.z T0) l1 i).2).1)) true) (Int.toNat ((((rd (Ty.z T0) l1 i).2).2).1)) true),q22_14.2.2.2.2.2)
 else
 go ((i64.wrap (i - (1:Int))),(List.set l2 (Int.toNat (((rd (Ty.z T0) l1 i).2).1)) (q19_9.2.1,q19_9.2.2)),(List.set l3 (Int.toNat (((rd (Ty.z T0) l1 i).2).1)) true),q22_14.2.2.2.2.2)) (fun z11b =>
 go ((i64.wrap (i - (1:Int))),l2,l3,l1))
 else
 some (l2,l1)
def f27 (t_L : NL) (root:Int) : Option (Int×(List (LI×LI))×NL) :=
 bindF (f27_j1 t_L root) fun z1 =>
 sumF z1 (fun z1a =>
 guardF (0 ≤ root ∧ root < (List.length t_L:Int)) <|
 bif ((List.length ((((((rd (Ty.z T0) t_L root).2).2).2).2).2):Int) != (1:Int)) then
 some ((4:Int),[],t_L)
 else
 guardF (0 ≤ (i64.wrap (root + (1:Int))) ∧ (i64.wrap (root + (1:Int))) ≤ (i64.wrap (root + (1:Int))) ∧ Int.toNat (i64.wrap (root + (1:Int))) * 48 ≤ 140737488355328) <|
 guardF (0 ≤ (i64.wrap (root + (1:Int))) ∧ (i64.wrap (root + (1:Int))) ≤ (i64.wrap (root + (1:Int))) ∧ Int.toNat (i64.wrap (root + (1:Int))) * 1 ≤ 140737488355328) <|
 bindF (loopF (fun go x=>f27_l2 t_L root go x.1 x.2.1 x.2.2.1 x.2.2.2.1 x.2.2.2.2) fuelN ((0:Int),(List.replicate (Int.toNat (i64.wrap (root + (1:Int)))) (Ty.z T3)),(List.length (List.replicate (Int.toNat (i64.wrap (root + (1:Int)))) (Ty.z T3)):Int),[],[])) fun z5 =>
 guardF (0 ≤ root ∧ root < (List.length z5.1:Int)) <|
 guardF (root = z5.2.1) <|
 guardF (0 ≤ (0:Int) ∧ (0:Int) < (List.length z5.2.2.2:Int)) <|
 guardF (0 ≤ root ∧ root < (List.length (List.replicate (Int.toNat (i64.wrap (root + (1:Int)))) false):Int)) <|
 bindF (loopF (fun go x=>f27_l5 go x.1 x.2.1 x.2.2.1 x.2.2.2) fuelN (root,(List.set z5.1 (Int.toNat z5.2.1) (z5.2.2.1,(List.set z5.2.2.2 (Int.toNat (0:Int)) (4294967296:Int)))),(List.set (List.replicate (Int.toNat (i64.wrap (root + (1:Int)))) false) (Int.toNat root) true),t_L)) fun z10 =>
 some ((0:Int),z10.1,z10.2)) (fun z1b =>
 some ((1:Int),[],t_L))
def C27 : Con where
 X := NL×Int
 Y := Int×(List (LI×LI))×NL
 e := 2
 args x := [P0 0 0,.dat T2 x.2]
 hin x := [(0,.cells [(.osl 1)]),(1,.arr 45 T0 x.1)]
 F x := f27 x.1 x.2
 ret y := [O0 2,.dat T2 y.1]
 hout y := [(0,.cells [(.osl 1)]),(1,.arr 45 T0 y.2.2),(2,.arr 35 T3 y.2.1)]
 nout := 3
theorem C27_vc (t_L : NL) (root:Int) (y : Int×(List (LI×LI))×NL) (q : f27 t_L root = some y) : VE Tryz.f27 2 C27 (t_L,root) y := by
 unfold f27 at q
 refine OL ?_
 obtain ⟨z1,hz1,q⟩ := bE q
 refine OQ ⟨Sum.elim (fun z1a=>[(0,⟨[(0,P0 0 0),(1,.dat T2 root)],[(0,.cells [(.osl 1)]),(1,.arr 45 T0 t_L)],2⟩)]) (fun z1b=>[(1,⟨[(4,.raw false [N0]),(5,D0 1)],[(0,.cells [(.osl 1)]),(1,.arr 45 T0 t_L)],2⟩)]) z1,?_,?_⟩
 ·have q := hz1
  clear hz1
  unfold f27_j1 at q
  refine OL (cN q (fun q=>?_) (fun q=>?_))
  ·refine gY (gY (gY (gY (gY (gY (cF (cI q (fun q=>?_) (fun q=>?_))))))))
   ·cases sE q
    refine OL (E4 I2 (R2 (AJ (R2 TV))))
   cases sE q
   refine E4 I2 (R2 (AJ (R2 TV)))
  refine gN (gN (gN (gN (gN (gN (cT (cT (OL ?_))))))))
  cases sE q
  refine E4 I2 (R2 (AJ (R2 TV)))
 rcases z1 with z1a | z1b
 ·dsimp only [sumF] at q
  refine AI (OL (OL (gI q (fun q=>?_)))) TV
  refine cI q (fun q=>?_) (fun q=>?_)
  ·cases sE q
   refine OL (AI rfl (E4 [(0,some 0),(1,some 1),(2,none)] (R2 (AJ (R3 TV)))))
  refine OL (gI q (fun q=>?_))
  refine OL (gI q (fun q=>?_))
  refine OL (OL ?_)
  obtain ⟨z5,hz5,q⟩ := bE q
  refine lI (Int×(List (LI×LI))×Int×LI×LI) ((List (LI×LI))×Int×LI×LI) (fun x=>⟨[(0,P0 0 0),(1,.dat T2 root),(6,O0 2),(7,O0 3),(8,.dat T2 x.1)],[(0,.cells [(.osl 1)]),(1,.arr 45 T0 t_L),(2,.hol 35 T3 x.2.1 x.2.2.1 [(.osl 4),(.osl 5)]),(3,.arr 4 .bool (List.replicate (Int.toNat (i64.wrap (root + (1:Int)))) false)),(4,.arr 3 T2 x.2.2.2.1),(5,.arr 40 T2 x.2.2.2.2)],6⟩) (fun z=>[(2,⟨[(0,P0 0 0),(1,.dat T2 root),(6,O0 2),(7,O0 3)],[(0,.cells [(.osl 1)]),(1,.arr 45 T0 t_L),(2,.hol 35 T3 z.1 z.2.1 [(.osl 4),(.osl 5)]),(3,.arr 4 .bool (List.replicate (Int.toNat (i64.wrap (root + (1:Int)))) false)),(4,.arr 3 T2 z.2.2.1),(5,.arr 40 T2 z.2.2.2)],6⟩)]) (loopF (fun go x=>f27_l2 t_L root go x.1 x.2.1 x.2.2.1 x.2.2.2.1 x.2.2.2.2)) fuelN ((0:Int),(List.replicate (Int.toNat (i64.wrap (root + (1:Int)))) (Ty.z T3)),(List.length (List.replicate (Int.toNat (i64.wrap (root + (1:Int)))) (Ty.z T3)):Int),[],[]) z5 (AI hz5 (AI (EI [] (EI [(2,(List.length (List.replicate (Int.toNat (i64.wrap (root + (1:Int)))) (Ty.z T3)):Int),[N0,N0])] (AI (Nat.le_refl _) (EI [] (EI [] (EI [(0,some 0),(1,some 1),(2,some 2),(3,some 3),(4,none),(5,none)] (R3 (AI (R3 TV) (R6 TV))))))))) (AI (fun _ _ h=>lZ h) (AI (fun m=>curI (fun i=>curI (fun l2=>curI (fun i2=>curI (fun l4=>fun l5 z q=>?_))))) ?_))))
  ·have q : f27_l2 t_L root (loopF (fun go x=>f27_l2 t_L root go x.1 x.2.1 x.2.2.1 x.2.2.2.1 x.2.2.2.2) m) i l2 i2 l4 l5 = some z := q
   unfold f27_l2 at q
   refine OL (OL (cI q (fun q=>?_) (fun q=>?_)))
   ·refine OL (gI q (fun q=>?_))
    obtain ⟨r6,hr6,q⟩ := bE q
    refine OL (AI f71_in (cV (cQ C71 ((((((rd (Ty.z T0) t_L i).2).2).2).2).1,(0:Int)) r6 [] false C71_holds hr6 rfl rfl (R2 (K0 (gI q (fun q=>?_)))))))
    refine OQ (AI rfl (EI ((i64.wrap (i + (1:Int))),(List.set l2 (Int.toNat i2) (l4,l5)),i,r6.1,r6.2) (AI q (E4 [(0,some 0),(1,some 1),(2,some 2),(3,some 3),(4,some 6),(5,some 7)] (R3 (AI (R3 TV) (R6 TV)))))))
   cases sE q
   refine E4 I6 (R2 (AI (R3 TV) (R6 TV)))
  refine AI (OL (gI q (fun q=>?_))) TV
  refine gI q (fun q=>?_)
  refine gI q (fun q=>?_)
  refine OL (OL (gI q (fun q=>?_)))
  refine OL (OL (OL ?_))
  obtain ⟨z10,hz10,q⟩ := bE q
  refine lI (Int×(List (LI×LI))×(List Bool)×NL) ((List (LI×LI))×NL) (fun x=>⟨[(0,P0 0 0),(6,O0 2),(7,O0 3),(9,.dat T2 x.1)],[(0,.cells [(.osl 1)]),(1,.arr 45 T0 x.2.2.2),(2,.arr 35 T3 x.2.1),(3,.arr 4 .bool x.2.2.1)],4⟩) (fun z=>[(4,⟨[(6,O0 2)],[(0,.cells [(.osl 1)]),(1,.arr 45 T0 z.2),(2,.arr 35 T3 z.1)],3⟩)]) (loopF (fun go x=>f27_l5 go x.1 x.2.1 x.2.2.1 x.2.2.2)) fuelN (root,(List.set z5.1 (Int.toNat z5.2.1) (z5.2.2.1,(List.set z5.2.2.2 (Int.toNat (0:Int)) (4294967296:Int)))),(List.set (List.replicate (Int.toNat (i64.wrap (root + (1:Int)))) false) (Int.toNat root) true),t_L) z10 (AI hz10 (AI (EI [2] (AI rfl (EI [] (EI [] (EI [] (EI I4 (R2 (AI (R3 TV) (R4 TV))))))))) (AI (fun _ _ h=>lZ h) (AI (fun m=>curI (fun i=>curI (fun l2=>curI (fun l3=>fun l1 z q=>?_)))) ?_))))
  ·have q : f27_l5 (loopF (fun go x=>f27_l5 go x.1 x.2.1 x.2.2.1 x.2.2.2) m) i l2 l3 l1 = some z := q
   unfold f27_l5 at q
   refine OL (OL (cI q (fun q=>?_) (fun q=>?_)))
   ·refine OL (OL (gI q (fun q=>?_)))
    refine OL ?_
    obtain ⟨z11,hz11,q⟩ := bE q
    refine OQ ⟨Sum.elim (fun z11a=>[(0,⟨[(0,P0 0 0),(6,O0 2),(7,O0 3),(9,.dat T2 i),(10,P0 4 0)],[(0,.cells [(.osl 1)]),(1,.arr 45 T0 l1),(2,.arr 35 T3 l2),(3,.arr 4 .bool l3),(4,.cells [(.d T2 ((rd (Ty.z T0) l1 i).1)),(.d T2 (((rd (Ty.z T0) l1 i).2).1)),(.d T2 ((((rd (Ty.z T0) l1 i).2).2).1)),(.d T2 (((((rd (Ty.z T0) l1 i).2).2).2).1)),(.d T1 ((((((rd (Ty.z T0) l1 i).2).2).2).2).1)),(.d T1 ((((((rd (Ty.z T0) l1 i).2).2).2).2).2))])],5⟩)]) (fun z11b=>[(5,⟨[(0,P0 0 0),(6,O0 2),(7,O0 3),(9,.dat T2 i)],[(0,.cells [(.osl 1)]),(1,.arr 45 T0 l1),(2,.arr 35 T3 l2),(3,.arr 4 .bool l3)],4⟩)]) z11,?_,?_⟩
    ·have q := hz11
     clear hz11
     unfold f27_j6 at q
     refine OL (gI q (fun q=>?_))
     refine cN q (fun q=>?_) (fun q=>?_)
     ·refine gY (gY (cF (cI q (fun q=>?_) (fun q=>?_))))
      ·cases sE q
       refine E4 I4 (R2 (AI (R3 TV) (R4 TV)))
      cases sE q
      refine E4 I5 (R2 (AI (R4 TV) (R5 TV)))
     refine gN (gN (cT (cT ?_)))
     cases sE q
     refine E4 I4 (R2 (AI (R3 TV) (R4 TV)))
    rcases z11 with z11a | z11b
    ·dsimp only [sumF] at q
     refine AI (OL (gI q (fun q=>?_))) TV
     obtain ⟨q22_14,hq22_14,q⟩ := bE q
     refine OL (AI f76_in (cV (cQ C76 (l1,i,((rd (Ty.z T3) l2 i).1,(rd (Ty.z T3) l2 i).2)) q22_14 I2 false C76_holds hq22_14 rfl rfl (R3 (AI NH (R2 (AJ (AI (R2 TV) (OL (OL (OL (EI (.take 0 (.take 1 (.take 2 (.take 3 (.take 4 (.take 5 (.take 6 (.take 7 (.take 8 (.alt 9 (.take 10 (.take 11 (.take 12 (.take 13 (.alt 14 .done .done))))) .done)))))))))) (EI [(14,[2])] (EI [] (AI rfl (gI q (fun q=>?_)))))))))))))))))
     refine AI TV ?_
     obtain ⟨q19_9,hq19_9,q⟩ := bE q
     refine OL (AI f77_in (cV (cQ C77 ((0:Int),((rd (Ty.z T3) l2 (((rd (Ty.z T0) l1 i).2).1)).1,(rd (Ty.z T3) l2 (((rd (Ty.z T0) l1 i).2).1)).2),(q22_14.2.1,q22_14.2.2.1)) q19_9 [] true C77_holds hq19_9 rfl rfl (R5 (AI (fun _=>rfl) (R2 (AI TV (AI TV (gI q (fun q=>?_))))))))))
     refine AI TV (OL (OL (gI q (fun q=>?_))))
     refine OL (OL (cI q (fun q=>?_) (fun q=>?_)))
     ·refine OL (EI (.take 0 (.take 1 (.take 2 (.take 3 (.take 4 (.take 5 (.take 6 (.take 7 (.take 8 (.alt 9 (.take 10 (.take 11 (.take 12 (.take 13 (.alt 14 .done .done))))) .done)))))))))) (EI [(14,[2])] (EI [] (AI rfl (gI q (fun q=>?_))))))
      refine AI TV ?_
      obtain ⟨q22_9,hq22_9,q⟩ := bE q
      refine OL (AI f77_in (cV (cQ C77 ((0:Int),((rd (Ty.z T3) (List.set l2 (Int.toNat (((rd (Ty.z T0) l1 i).2).1)) (q19_9.2.1,q19_9.2.2)) ((((rd (Ty.z T0) l1 i).2).2).1)).1,(rd (Ty.z T3) (List.set l2 (Int.toNat (((rd (Ty.z T0) l1 i).2).1)) (q19_9.2.1,q19_9.2.2)) ((((rd (Ty.z T0) l1 i).2).2).1)).2),(q22_14.2.2.2.1,q22_14.2.2.2.2.1)) q22_9 [] true C77_holds hq22_9 rfl rfl (R5 (AI (fun _=>rfl) (R2 (AI TV (AI TV (gI q (fun q=>?_))))))))))
      refine AI TV (OL (gI q (fun q=>?_)))
      refine OL (EI ((i64.wrap (i - (1:Int))),(List.set (List.set l2 (Int.toNat (((rd (Ty.z T0) l1 i).2).1)) (q19_9.2.1,q19_9.2.2)) (Int.toNat ((((rd (Ty.z T0) l1 i).2).2).1)) (q22_9.2.1,q22_9.2.2)),(List.set (List.set l3 (Int.toNat (((rd (Ty.z T0) l1 i).2).1)) true) (Int.toNat ((((rd (Ty.z T0) l1 i).2).2).1)) true),q22_14.2.2.2.2.2) (AI q (E4 I4 (R2 (AI (R3 TV) (R4 TV))))))
     refine EI ((i64.wrap (i - (1:Int))),(List.set l2 (Int.toNat (((rd (Ty.z T0) l1 i).2).1)) (q19_9.2.1,q19_9.2.2)),(List.set l3 (Int.toNat (((rd (Ty.z T0) l1 i).2).1)) true),q22_14.2.2.2.2.2) (AI q (E4 I4 (R2 (AI (R3 TV) (R4 TV)))))
    dsimp only [sumF] at q
    refine AI (EI ((i64.wrap (i - (1:Int))),l2,l3,l1) (AI q (E4 I4 (R2 (AI (R3 TV) (R4 TV)))))) TV
   cases sE q
   refine E4 I3 (AI rfl (AJ (R3 TV)))
  refine AI (OL ?_) TV
  cases sE q
  refine AI rfl (E4 I3 (R2 (AJ (R3 TV))))
 dsimp only [sumF] at q
 refine AI ?_ TV
 cases sE q
 refine AI rfl (E4 [(0,some 0),(1,some 1),(2,none)] (R2 (AJ (R3 TV))))
theorem C27_holds : HP C27 27 := hH Tryz.f27 (by kernel_rfl) rfl (fun x y q=>C27_vc x.1 x.2 y q)
theorem f27_in : InP 27 := inP (by kernel_rfl)
end Go.Proofs
