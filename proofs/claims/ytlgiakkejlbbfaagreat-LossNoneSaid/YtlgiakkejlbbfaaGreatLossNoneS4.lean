import Derived.Test.YtlgiakkejlbbfaaGreatLossNoneS3
set_option linter.unusedVariables false
set_option maxRecDepth 100000
set_option maxHeartbeats 8000000
namespace Go.Proofs
open Go.AM
open IntKind (i64 u64 i32 u32 i16 u16 i8 u8)
def f52_l1 (d : LI) (go : (Int×Int) → Option Int) (n:Int) (i:Int) : Option Int :=
 bif (decide (i < (List.length d:Int))) then
 guardF (0 ≤ i ∧ i < (List.length d:Int)) <|
 go ((i64.wrap (n * (rd (0:Int) d i))),(i64.wrap (i + (1:Int))))
 else
 some n
def f52 (d : LI) : Option Int :=
 bindF (f112 d) fun r1 =>
 bif (!r1) then
 some (0:Int)
 else
 bindF (loopF (fun go x=>f52_l1 d go x.1 x.2) fuelN ((1:Int),(0:Int))) fun z2 =>
 some z2
def C52 : Con where
 X := LI
 Y := Int
 e := 0
 args x := [.dat T1 x]
 hin x := []
 F x := f52 x
 ret y := [.dat T2 y]
 hout y := []
 nout := 0
theorem C52_vc (d : LI) (y:Int) (q : f52 d = some y) : VC Tryz.f52 C52 d y := by
 unfold f52 at q
 refine OL (OL (OL ?_))
 obtain ⟨r1,hr1,q⟩ := bE q
 refine OL (AI f112_in (cV (cQ C112 d r1 [] false C112_holds hr1 rfl rfl (AI rfl (K0 (cI q (fun q=>?_) (fun q=>?_)))))))
 ·cases sE q
  refine OL (AI rfl (E4 [] (R2 (AI TV TV))))
 refine OL (OL (OL ?_))
 obtain ⟨z2,hz2,q⟩ := bE q
 refine lI (Int×Int) Int (fun x=>⟨[(0,.dat T1 d),(3,.dat T2 x.1),(4,.dat T2 x.2)],[],0⟩) (fun z=>[(2,⟨[(3,.dat T2 z)],[],0⟩)]) (loopF (fun go x=>f52_l1 d go x.1 x.2)) fuelN ((1:Int),(0:Int)) z2 (AI hz2 (AI (E4 [] (R4 (AI TV TV))) (AI (fun _ _ h=>lZ h) (AI (fun m=>curI (fun n=>fun i z q=>?_)) ?_))))
 ·have q : f52_l1 d (loopF (fun go x=>f52_l1 d go x.1 x.2) m) n i = some z := q
  unfold f52_l1 at q
  refine OL (OL (cI q (fun q=>?_) (fun q=>?_)))
  ·refine OL (gI q (fun q=>?_))
   refine EI ((i64.wrap (n * (rd (0:Int) d i))),(i64.wrap (i + (1:Int)))) (AI q (E4 [] (R4 (AI TV TV))))
  cases sE q
  refine E4 [] (R2 (AI TV TV))
 refine AI (OL ?_) TV
 cases sE q
 refine AI rfl (E4 [] (R2 (AI TV TV)))
theorem C52_holds : HP C52 52 := hH Tryz.f52 (by kernel_rfl) rfl (fun x y q=>C52_vc x y q)
theorem f52_in : InP 52 := inP (by kernel_rfl)
def f23_l1 (v:Int) (go : (Int×LI) → Option LI) (i:Int) (l3 : LI) : Option LI :=
 bif (decide (i < (List.length l3:Int))) then
 guardF (0 ≤ i ∧ i < (List.length l3:Int)) <|
 go ((i64.wrap (i + (1:Int))),(List.set l3 (Int.toNat i) v))
 else
 some l3
def f23 (d : LI) (v:Int) : Option (LI×LI) :=
 guardF ((List.length ([] : LI) + List.length d) * 8 ≤ 140737488355328) <|
 bindF (f52 d) fun r1 =>
 guardF (0 ≤ r1 ∧ r1 ≤ r1 ∧ Int.toNat r1 * 8 ≤ 140737488355328) <|
 bindF (loopF (fun go x=>f23_l1 v go x.1 x.2) fuelN ((0:Int),(List.replicate (Int.toNat r1) (0:Int)))) fun z2 =>
 some ((([] : LI) ++ d),z2)
def C23 : Con where
 X := LI×Int
 Y := LI×LI
 e := 0
 args x := [.dat T1 x.1,.dat T2 x.2]
 hin x := []
 F x := f23 x.1 x.2
 ret y := [.raw true [(.osl 0),(.osl 1)]]
 hout y := [(0,.arr 3 T2 y.1),(1,.arr 33 T2 y.2)]
 nout := 2
theorem C23_vc (d : LI) (v:Int) (y : LI×LI) (q : f23 d v = some y) : VC Tryz.f23 C23 (d,v) y := by
 unfold f23 at q
 refine OL (OL (OL (OL (gI q (fun q=>?_)))))
 obtain ⟨r1,hr1,q⟩ := bE q
 refine OL (AI f52_in (cV (cQ C52 d r1 [] false C52_holds hr1 rfl rfl (AI rfl (K0 (gI q (fun q=>?_)))))))
 refine OL (OL (OL ?_))
 obtain ⟨z2,hz2,q⟩ := bE q
 refine lI (Int×LI) LI (fun x=>⟨[(1,.dat T2 v),(4,P0 0 0),(5,P0 1 0),(6,.dat T2 x.1)],[(0,.cells [N0,N0]),(1,.cells [(.osl 2),(.osl 3)]),(2,.arr 3 T2 (([] : LI) ++ d)),(3,.arr 33 T2 x.2)],4⟩) (fun z=>[(2,⟨[(4,P0 0 0),(5,P0 1 0)],[(0,.cells [N0,N0]),(1,.cells [(.osl 2),(.osl 3)]),(2,.arr 3 T2 (([] : LI) ++ d)),(3,.arr 33 T2 z)],4⟩)]) (loopF (fun go x=>f23_l1 v go x.1 x.2)) fuelN ((0:Int),(List.replicate (Int.toNat r1) (0:Int))) z2 (AI hz2 (AI (E4 [(0,some 0),(1,some 4),(2,some 2),(3,some 3)] (R3 (AI (R2 TV) (R4 TV)))) (AI (fun _ _ h=>lZ h) (AI (fun m=>curI (fun i=>fun l3 z q=>?_)) ?_))))
 ·have q : f23_l1 v (loopF (fun go x=>f23_l1 v go x.1 x.2) m) i l3 = some z := q
  unfold f23_l1 at q
  refine OL (OL (cI q (fun q=>?_) (fun q=>?_)))
  ·refine OL (gI q (fun q=>?_))
   refine OL (EI ((i64.wrap (i + (1:Int))),(List.set l3 (Int.toNat i) v)) (AI q (E4 I4 (R3 (AI (R2 TV) (R4 TV))))))
  cases sE q
  refine E4 I4 (AI rfl (AI (R2 TV) (R4 TV)))
 refine AI (OL (OL ?_)) TV
 cases sE q
 refine AI rfl (E4 [(0,some 2),(1,some 3)] (AI rfl (AJ (R2 TV))))
theorem C23_holds : HP C23 23 := hH Tryz.f23 (by kernel_rfl) rfl (fun x y q=>C23_vc x.1 x.2 y q)
theorem f23_in : InP 23 := inP (by kernel_rfl)
def f30 (v : LI) : Option (LI×LI) :=
 some (v,[(List.length v:Int)])
def C30 : Con where
 X := LI
 Y := LI×LI
 e := 0
 args x := [.dat T1 x]
 hin x := []
 F x := f30 x
 ret y := [.raw true [(.osl 0),(.d T1 y.1)]]
 hout y := [(0,.arr 3 T2 y.2)]
 nout := 1
theorem C30_vc (v : LI) (y : LI×LI) (q : f30 v = some y) : VC Tryz.f30 C30 v y := by
 unfold f30 at q
 refine OL (OL (OL (OL ?_)))
 cases sE q
 refine AI rfl (E4 [(0,some 1)] (AI rfl (AJ (AI rfl TV))))
theorem C30_holds : HP C30 30 := hH Tryz.f30 (by kernel_rfl) rfl (fun x y q=>C30_vc x y q)
theorem f30_in : InP 30 := inP (by kernel_rfl)
def f71_j1 (want : LI) (r1 : Bool×LI×LI×NL) : Option Bool :=
 bif (!r1.1) then
 some true
 else
 some ((List.length want:Int) != (List.length r1.2.2.1:Int))
def f71 (t_l : NL) (out:Int) (want : LI) : Option (Int×NL) :=
 bindF (f26 t_l out) fun r1 =>
 bindF (f71_j1 want r1) fun z2 =>
 bif z2 then
 some ((1:Int),r1.2.2.2)
 else
 bif ((List.length r1.2.1:Int) != (1:Int)) then
 some ((4:Int),r1.2.2.2)
 else
 some ((0:Int),r1.2.2.2)
def C71 : Con where
 X := NL×Int×LI
 Y := Int×NL
 e := 2
 args x := [P0 0 0,.dat T2 x.2.1,.dat T1 x.2.2]
 hin x := [(0,.cells [(.osl 1)]),(1,.arr 74 T0 x.1)]
 F x := f71 x.1 x.2.1 x.2.2
 ret y := [.dat T2 y.1]
 hout y := [(0,.cells [(.osl 1)]),(1,.arr 74 T0 y.2)]
 nout := 2
theorem C71_vc (t_l : NL) (out:Int) (want : LI) (y : Int×NL) (q : f71 t_l out want = some y) : VE Tryz.f71 2 C71 (t_l,out,want) y := by
 unfold f71 at q
 refine OL (OL ?_)
 obtain ⟨r1,hr1,q⟩ := bE q
 refine OL (AI f26_in (cV (cQ C26 (t_l,out) r1 I2 false C26_holds hr1 rfl rfl (AI rfl (AI NH (R2 (AJ (AI (R2 TV) (OL (OL ?_))))))))))
 obtain ⟨z2,hz2,q⟩ := bE q
 refine OQ ⟨[(0,⟨[(7,P0 2 0),(15,.dat .bool z2)],[(0,.cells [(.osl 1)]),(1,.arr 74 T0 r1.2.2.2),(2,.cells [(.osl 3),(.osl 4)]),(3,.arr 3 T2 r1.2.1),(4,.arr 33 T2 r1.2.2.1)],5⟩)],?_,?_⟩
 ·have q := hz2
  clear hz2
  unfold f71_j1 at q
  refine cN q (fun q=>?_) (fun q=>?_)
  ·refine gY (gY (gY (gY (gY (cF ?_)))))
   cases sE q
   refine E4 [(0,some 0),(1,some 1),(2,some 6),(3,some 4),(4,some 5)] (R2 (AJ (R5 TV)))
  refine gN (gN (gN (gN (gN (cT ?_)))))
  cases sE q
  refine E4 [(0,some 0),(1,some 1),(2,some 6),(3,some 4),(4,some 5)] (R2 (AJ (R5 TV)))
 refine AI (cI q (fun q=>?_) (fun q=>?_)) TV
 ·cases sE q
  refine OL (AI rfl (E4 I2 (R2 (AI TV (R2 TV)))))
 refine OL (cI q (fun q=>?_) (fun q=>?_))
 ·cases sE q
  refine OL (AI rfl (E4 I2 (R2 (AI TV (R2 TV)))))
 cases sE q
 refine OL (AI rfl (E4 I2 (R2 (AI TV (R2 TV)))))
theorem C71_holds : HP C71 71 := hH Tryz.f71 (by kernel_rfl) rfl (fun x y q=>C71_vc x.1 x.2.1 x.2.2 y q)
theorem f71_in : InP 71 := inP (by kernel_rfl)
def f28 (t_l : NL) : Option (Int×NL) :=
 some ((List.length t_l:Int),t_l)
def C28 : Con where
 X := NL
 Y := Int×NL
 e := 2
 args x := [P0 0 0]
 hin x := [(0,.cells [(.osl 1)]),(1,.arr 74 T0 x)]
 F x := f28 x
 ret y := [.dat T2 y.1]
 hout y := [(0,.cells [(.osl 1)]),(1,.arr 74 T0 y.2)]
 nout := 2
theorem C28_vc (t_l : NL) (y : Int×NL) (q : f28 t_l = some y) : VE Tryz.f28 2 C28 t_l y := by
 unfold f28 at q
 refine OL (OL ?_)
 cases sE q
 refine AI rfl (E4 I2 (R2 (AI TV (R2 TV))))
theorem C28_holds : HP C28 28 := hH Tryz.f28 (by kernel_rfl) rfl (fun x y q=>C28_vc x y q)
theorem f28_in : InP 28 := inP (by kernel_rfl)
def f72 (t_l : NL) : Option (Int×NL) :=
 bindF (f28 t_l) fun r1 =>
 some (r1.1,r1.2)
def C72 : Con where
 X := NL
 Y := Int×NL
 e := 2
 args x := [P0 0 0]
 hin x := [(0,.cells [(.osl 1)]),(1,.arr 74 T0 x)]
 F x := f72 x
 ret y := [P0 2 0]
 hout y := [(0,.cells [(.osl 1)]),(1,.arr 74 T0 y.2),(2,.cells [(.ptr 0 0),(.d T2 y.1),(.d T2 (0:Int))])]
 nout := 3
theorem C72_vc (t_l : NL) (y : Int×NL) (q : f72 t_l = some y) : VE Tryz.f72 2 C72 t_l y := by
 unfold f72 at q
 refine OL (OL ?_)
 obtain ⟨r1,hr1,q⟩ := bE q
 refine OL (AI f28_in (cV (cQ C28 t_l r1 I2 false C28_holds hr1 rfl rfl (AI NH (R2 (AJ (AI (R2 TV) ?_)))))))
 cases sE q
 refine AI rfl (E4 [(0,some 0),(1,some 1),(2,some 4)] (AI rfl (AJ (R3 TV))))
theorem C72_holds : HP C72 72 := hH Tryz.f72 (by kernel_rfl) rfl (fun x y q=>C72_vc x y q)
theorem f72_in : InP 72 := inP (by kernel_rfl)
def f74 (s_t_l : NL) (s_was:Int) (s_e:Int) (v : LI) : Option (Int×Int×Int×NL) :=
 bif (s_e != (0:Int)) then
 some ((0:Int),s_was,s_e,s_t_l)
 else
 bindF (f14 s_t_l ([(List.length v:Int)],v)) fun r1 =>
 some (r1.1,s_was,r1.2.1,r1.2.2)
def C74 : Con where
 X := NL×Int×Int×LI
 Y := Int×Int×Int×NL
 e := 3
 args x := [P0 0 0,.dat T1 x.2.2.2]
 hin x := [(0,.cells [(.ptr 1 0),(.d T2 x.2.1),(.d T2 x.2.2.1)]),(1,.cells [(.osl 2)]),(2,.arr 74 T0 x.1)]
 F x := f74 x.1 x.2.1 x.2.2.1 x.2.2.2
 ret y := [.dat T2 y.1]
 hout y := [(0,.cells [(.ptr 1 0),(.d T2 y.2.1),(.d T2 y.2.2.1)]),(1,.cells [(.osl 3)]),(3,.arr 74 T0 y.2.2.2)]
 nout := 4
theorem C74_vc (s_t_l : NL) (s_was:Int) (s_e:Int) (v : LI) (y : Int×Int×Int×NL) (q : f74 s_t_l s_was s_e v = some y) : VE Tryz.f74 3 C74 (s_t_l,s_was,s_e,v) y := by
 unfold f74 at q
 refine OL (OL (OL (cI q (fun q=>?_) (fun q=>?_))))
 ·cases sE q
  refine OL (AI rfl (E4 [(0,some 0),(1,some 1),(3,some 2)] (R2 (AI TV (R3 TV)))))
 refine OL (OL ?_)
 obtain ⟨r1,hr1,q⟩ := bE q
 refine OL (AI f14_in (cV (cQ C14 (s_t_l,([(List.length v:Int)],v)) r1 [(0,some 1),(1,some 2)] false C14_holds hr1 rfl rfl (R2 (AI NH (R2 (AJ (AI (R2 TV) (OL (OL (OL ?_)))))))))))
 cases sE q
 refine AI rfl (E4 [(0,some 0),(1,some 1),(3,some 6)] (R2 (AI TV (R3 TV))))
theorem C74_holds : HP C74 74 := hH Tryz.f74 (by kernel_rfl) rfl (fun x y q=>C74_vc x.1 x.2.1 x.2.2.1 x.2.2.2 y q)
theorem f74_in : InP 74 := inP (by kernel_rfl)
def f73 (s_t_l : NL) (s_was:Int) (s_e:Int) (op:Int) (a:Int) (b:Int) (k:Int) : Option (Int×Int×Int×NL) :=
 bif (s_e != (0:Int)) then
 some ((0:Int),s_was,s_e,s_t_l)
 else
 bindF (f17 s_t_l op a b k) fun r1 =>
 some (r1.1,s_was,r1.2.1,r1.2.2)
def C73 : Con where
 X := NL×Int×Int×Int×Int×Int×Int
 Y := Int×Int×Int×NL
 e := 3
 args x := [P0 0 0,.dat T2 x.2.2.2.1,.dat T2 x.2.2.2.2.1,.dat T2 x.2.2.2.2.2.1,.dat T2 x.2.2.2.2.2.2]
 hin x := [(0,.cells [(.ptr 1 0),(.d T2 x.2.1),(.d T2 x.2.2.1)]),(1,.cells [(.osl 2)]),(2,.arr 74 T0 x.1)]
 F x := f73 x.1 x.2.1 x.2.2.1 x.2.2.2.1 x.2.2.2.2.1 x.2.2.2.2.2.1 x.2.2.2.2.2.2
 ret y := [.dat T2 y.1]
 hout y := [(0,.cells [(.ptr 1 0),(.d T2 y.2.1),(.d T2 y.2.2.1)]),(1,.cells [(.osl 3)]),(3,.arr 74 T0 y.2.2.2)]
 nout := 4
theorem C73_vc (s_t_l : NL) (s_was:Int) (s_e:Int) (op:Int) (a:Int) (b:Int) (k:Int) (y : Int×Int×Int×NL) (q : f73 s_t_l s_was s_e op a b k = some y) : VE Tryz.f73 3 C73 (s_t_l,s_was,s_e,op,a,b,k) y := by
 unfold f73 at q
 refine OL (OL (OL (cI q (fun q=>?_) (fun q=>?_))))
 ·cases sE q
  refine OL (AI rfl (E4 [(0,some 0),(1,some 1),(3,some 2)] (R2 (AI TV (R3 TV)))))
 refine OL ?_
 obtain ⟨r1,hr1,q⟩ := bE q
 refine OL (AI f17_in (cV (cQ C17 (s_t_l,op,a,b,k) r1 [(0,some 1),(1,some 2)] false C17_holds hr1 rfl rfl (R4 (AI NH (R2 (AJ (AI (R2 TV) (OL (OL (OL ?_)))))))))))
 cases sE q
 refine AI rfl (E4 [(0,some 0),(1,some 1),(3,some 5)] (R2 (AI TV (R3 TV))))
theorem C73_holds : HP C73 73 := hH Tryz.f73 (by kernel_rfl) rfl (fun x y q=>C73_vc x.1 x.2.1 x.2.2.1 x.2.2.2.1 x.2.2.2.2.1 x.2.2.2.2.2.1 x.2.2.2.2.2.2 y q)
theorem f73_in : InP 73 := inP (by kernel_rfl)
def f121 (t_l : NL) (n:Int) : Option NL :=
 guardF (0 ≤ (if (List.length t_l:Int) < (if (0:Int) > n then (0:Int) else n) then (List.length t_l:Int) else (if (0:Int) > n then (0:Int) else n)) ∧ (if (List.length t_l:Int) < (if (0:Int) > n then (0:Int) else n) then (List.length t_l:Int) else (if (0:Int) > n then (0:Int) else n)) ≤ (List.length t_l:Int)) <|
 some (List.take (Int.toNat (if (List.length t_l:Int) < (if (0:Int) > n then (0:Int) else n) then (List.length t_l:Int) else (if (0:Int) > n then (0:Int) else n))) t_l)
def C121 : Con where
 X := NL×Int
 Y := NL
 e := 2
 args x := [P0 0 0,.dat T2 x.2]
 hin x := [(0,.cells [(.osl 1)]),(1,.arr 74 T0 x.1)]
 F x := f121 x.1 x.2
 ret y := []
 hout y := [(0,.cells [(.osl 2)]),(2,.arr 74 T0 y)]
 nout := 3
theorem C121_vc (t_l : NL) (n:Int) (y : NL) (q : f121 t_l n = some y) : VE Tryz.f121 2 C121 (t_l,n) y := by
 unfold f121 at q
 refine EI (.take 0 (.take 1 (.take 2 (.take 3 (.take 4 (.take 5 (.take 6 (.take 7 (.take 8 (.take 9 (.take 10 (.take 11 (.take 12 (.alt 13 (.take 14 (.take 15 (.alt 16 .done .done))) .done)))))))))))))) (EI [(16,[0])] (EI [] (AI rfl (AI TV (OQ (OQ (gI q (fun q=>?_))))))))
 refine AI TV (OL ?_)
 cases sE q
 refine AI rfl (E4 [(0,some 0),(2,some 2)] (AI rfl (AI TV (R2 TV))))
theorem C121_holds : HP C121 121 := hH Tryz.f121 (by kernel_rfl) rfl (fun x y q=>C121_vc x.1 x.2 y q)
theorem f121_in : InP 121 := inP (by kernel_rfl)
def f75 (s_t_l : NL) (s_was:Int) (s_e:Int) (n:Int) : Option (Int×Int×Int×Int×NL) :=
 bif (s_e != (0:Int)) then
 bindF (f121 s_t_l s_was) fun q2_8 =>
 some ((0:Int),s_e,s_was,s_e,q2_8)
 else
 some (n,(0:Int),s_was,s_e,s_t_l)
def C75 : Con where
 X := NL×Int×Int×Int
 Y := Int×Int×Int×Int×NL
 e := 3
 args x := [P0 0 0,.dat T2 x.2.2.2]
 hin x := [(0,.cells [(.ptr 1 0),(.d T2 x.2.1),(.d T2 x.2.2.1)]),(1,.cells [(.osl 2)]),(2,.arr 74 T0 x.1)]
 F x := f75 x.1 x.2.1 x.2.2.1 x.2.2.2
 ret y := [.dat T2 y.1,.dat T2 y.2.1]
 hout y := [(0,.cells [(.ptr 1 0),(.d T2 y.2.2.1),(.d T2 y.2.2.2.1)]),(1,.cells [(.osl 3)]),(3,.arr 74 T0 y.2.2.2.2)]
 nout := 4
theorem C75_vc (s_t_l : NL) (s_was:Int) (s_e:Int) (n:Int) (y : Int×Int×Int×Int×NL) (q : f75 s_t_l s_was s_e n = some y) : VE Tryz.f75 3 C75 (s_t_l,s_was,s_e,n) y := by
 unfold f75 at q
 refine OL (OL (OL (cI q (fun q=>?_) (fun q=>?_))))
 ·refine OL (EI (.take 0 (.take 1 (.take 2 (.take 3 (.take 4 (.take 5 (.take 6 (.take 7 (.alt 8 .done .done))))))))) (EI [] (EI [] (AI rfl (AI TV ?_)))))
  obtain ⟨q2_8,hq2_8,q⟩ := bE q
  refine OL (AI f121_in (cV (cQ C121 (s_t_l,s_was) q2_8 [(0,some 1),(1,some 2)] false C121_holds hq2_8 rfl rfl (AI rfl (AI NH (R2 (AJ (AI (R2 TV) (OL (EI (.take 0 (.take 1 (.take 2 (.take 3 (.take 4 (.take 5 .done)))))) (EI [] (EI [] (AI rfl ?_)))))))))))))
  cases sE q
  refine AI rfl (E4 [(0,some 0),(1,some 1),(3,some 5)] (R3 (AI TV (R3 TV))))
 cases sE q
 refine OL (AI rfl (E4 [(0,some 0),(1,some 1),(3,some 2)] (R3 (AI TV (R3 TV)))))
theorem C75_holds : HP C75 75 := hH Tryz.f75 (by kernel_rfl) rfl (fun x y q=>C75_vc x.1 x.2.1 x.2.2.1 x.2.2.2 y q)
theorem f75_in : InP 75 := inP (by kernel_rfl)
def f31 (t_l : NL) (out:Int) (want : LI) : Option (Int×Int×NL) :=
 bindF (f71 t_l out want) fun r1 =>
 bif (r1.1 != (0:Int)) then
 some ((0:Int),r1.1,r1.2)
 else
 bindF (f72 r1.2) fun r2 =>
 bindF (f74 r2.2 r2.1 (0:Int) want) fun r3 =>
 bindF (f73 r3.2.2.2 r3.2.1 r3.2.2.1 (3:Int) out r3.1 (0:Int)) fun r4 =>
 bindF (f73 r4.2.2.2 r4.2.1 r4.2.2.1 (4:Int) r4.1 r4.1 (0:Int)) fun r5 =>
 bindF (f73 r5.2.2.2 r5.2.1 r5.2.2.1 (10:Int) r5.1 (0:Int) (0:Int)) fun r6 =>
 bindF (f75 r6.2.2.2 r6.2.1 r6.2.2.1 r6.1) fun r7 =>
 some (r7.1,r7.2.1,r7.2.2.2.2)
def C31 : Con where
 X := NL×Int×LI
 Y := Int×Int×NL
 e := 2
 args x := [P0 0 0,.dat T2 x.2.1,.dat T1 x.2.2]
 hin x := [(0,.cells [(.osl 1)]),(1,.arr 74 T0 x.1)]
 F x := f31 x.1 x.2.1 x.2.2
 ret y := [.dat T2 y.1,.dat T2 y.2.1]
 hout y := [(0,.cells [(.osl 2)]),(2,.arr 74 T0 y.2.2)]
 nout := 3
theorem C31_vc (t_l : NL) (out:Int) (want : LI) (y : Int×Int×NL) (q : f31 t_l out want = some y) : VE Tryz.f31 2 C31 (t_l,out,want) y := by
 unfold f31 at q
 refine OL (OL (OL ?_))
 obtain ⟨r1,hr1,q⟩ := bE q
 refine OL (AI f71_in (cV (cQ C71 (t_l,out,want) r1 I2 false C71_holds hr1 rfl rfl (R2 (AI NH (R2 (AJ (AI (R2 TV) (OL (cI q (fun q=>?_) (fun q=>?_)))))))))))
 ·cases sE q
  refine OL (AI rfl (E4 [(0,some 0),(2,some 1)] (R3 (AI TV (R2 TV)))))
 refine OL ?_
 obtain ⟨r2,hr2,q⟩ := bE q
 refine OL (AI f72_in (cV (cQ C72 r1.2 r2 I2 false C72_holds hr2 rfl rfl (AI NH (R2 (AJ (AI (R2 TV) (OL ?_))))))))
 obtain ⟨r3,hr3,q⟩ := bE q
 refine OL (AI f74_in (cV (cQ C74 (r2.2,r2.1,(0:Int),want) r3 [(0,some 6),(1,some 0),(2,some 1)] false C74_holds hr3 rfl rfl (AI rfl (AI NH (R2 (AJ (AI (R3 TV) ?_))))))))
 obtain ⟨r4,hr4,q⟩ := bE q
 refine OL (AI f73_in (cV (cQ C73 (r3.2.2.2,r3.2.1,r3.2.2.1,(3:Int),out,r3.1,(0:Int)) r4 [(0,some 6),(1,some 0),(2,some 10)] false C73_holds hr4 rfl rfl (R4 (AI NH (R2 (AJ (AI (R3 TV) (OL ?_)))))))))
 obtain ⟨r5,hr5,q⟩ := bE q
 refine OL (AI f73_in (cV (cQ C73 (r4.2.2.2,r4.2.1,r4.2.2.1,(4:Int),r4.1,r4.1,(0:Int)) r5 [(0,some 6),(1,some 0),(2,some 14)] false C73_holds hr5 rfl rfl (R4 (AI NH (R2 (AJ (AI (R3 TV) ?_))))))))
 obtain ⟨r6,hr6,q⟩ := bE q
 refine OL (AI f73_in (cV (cQ C73 (r5.2.2.2,r5.2.1,r5.2.2.1,(10:Int),r5.1,(0:Int),(0:Int)) r6 [(0,some 6),(1,some 0),(2,some 18)] false C73_holds hr6 rfl rfl (R4 (AI NH (R2 (AJ (AI (R3 TV) ?_))))))))
 obtain ⟨r7,hr7,q⟩ := bE q
 refine OL (AI f75_in (cV (cQ C75 (r6.2.2.2,r6.2.1,r6.2.2.1,r6.1) r7 [(0,some 6),(1,some 0),(2,some 22)] false C75_holds hr7 rfl rfl (AI rfl (AI NH (R2 (AJ (AI (R3 TV) ?_))))))))
 cases sE q
 refine AI rfl (E4 [(0,some 0),(2,some 26)] (R3 (AI TV (R2 TV))))
theorem C31_holds : HP C31 31 := hH Tryz.f31 (by kernel_rfl) rfl (fun x y q=>C31_vc x.1 x.2.1 x.2.2 y q)
theorem f31_in : InP 31 := inP (by kernel_rfl)
def f29 : Option Bool :=
 bindF (f13) fun r1 =>
 bindF (f30 ([(12884901888:Int)])) fun r2 =>
 bindF (f14 ([]) (r2.2,r2.1)) fun r3 =>
 bindF (f31 r3.2.2 r3.1 ([(4294967296:Int)])) fun r4 =>
 bindF (f26 r4.2.2 r4.1) fun r5 =>
 bif (r4.2.1 == (0:Int)) then
 bif r5.1 then
 bif ((List.length r5.2.2.1:Int) == (1:Int)) then
 guardF (0 ≤ (0:Int) ∧ (0:Int) < (List.length r5.2.2.1:Int)) <|
 some ((rd (0:Int) r5.2.2.1 (0:Int)) == (17179869184:Int))
 else
 some false
 else
 some false
 else
 some false
def C29 : Con where
 X := Unit
 Y := Bool
 e := 0
 args x := []
 hin x := []
 F x := f29
 ret y := [.dat .bool y]
 hout y := []
 nout := 0
theorem C29_vc (y : Bool) (q : f29 = some y) : VC Tryz.f29 C29 () y := by
 unfold f29 at q
 refine OL (OL ?_)
 obtain ⟨r1,hr1,q⟩ := bE q
 refine OL (AI f13_in (cV (cQ C13 () r1 [] false C13_holds hr1 rfl rfl (K0 (OL (OL ?_))))))
 obtain ⟨r2,hr2,q⟩ := bE q
 refine OL (AI f30_in (cV (cQ C30 [(12884901888:Int)] r2 [] false C30_holds hr2 rfl rfl (AI rfl (K0 ?_)))))
 obtain ⟨r3,hr3,q⟩ := bE q
 refine OL (AI f14_in (cV (cQ C14 ([],(r2.2,r2.1)) r3 I2 false C14_holds hr3 rfl rfl (R2 (AI NH (R2 (AJ (AI (R2 TV) (OL (OL ?_))))))))))
 obtain ⟨r4,hr4,q⟩ := bE q
 refine OL (AI f31_in (cV (cQ C31 (r3.2.2,r3.1,[(4294967296:Int)]) r4 [(0,some 0),(1,some 6)] false C31_holds hr4 rfl rfl (R2 (AI NH (R2 (AJ (AI (R2 TV) (OL ?_)))))))))
 obtain ⟨r5,hr5,q⟩ := bE q
 refine OL (AI f26_in (cV (cQ C26 (r4.2.2,r4.1) r5 [(0,some 0),(1,some 10)] false C26_holds hr5 rfl rfl (AI rfl (AI NH (R2 (AJ (AI (R2 TV) (OL (OL (cI q (fun q=>?_) (fun q=>?_))))))))))))
 ·refine cT (cI q (fun q=>?_) (fun q=>?_))
  ·refine gX (gX (gX (cT (cI q (fun q=>?_) (fun q=>?_)))))
   ·refine gX (gX (gI q (fun q=>?_)))
    refine gX (gX (cT ?_))
    cases sE q
    refine AI rfl (E4 [] (R2 (AI TV TV)))
   refine gM (gM (gM (gM (cF ?_))))
   cases sE q
   refine AI rfl (E4 [] (R2 (AI TV TV)))
  refine gM (gM (gM (cF (gM (gM (gM (gM (gM (cF ?_)))))))))
  cases sE q
  refine AI rfl (E4 [] (R2 (AI TV TV)))
 refine cF (gM (gM (gM (gM (cF (gM (gM (gM (gM (gM (cF ?_)))))))))))
 cases sE q
 refine AI rfl (E4 [] (R2 (AI TV TV)))
theorem C29_holds : HP C29 29 := hH Tryz.f29 (by kernel_rfl) rfl (fun x y q=>C29_vc y q)
theorem f29_in : InP 29 := inP (by kernel_rfl)
def f32 (t_l : NL) (out:Int) (want : LI) : Option (Int×Int×NL) :=
 bindF (f71 t_l out want) fun r1 =>
 bif (r1.1 != (0:Int)) then
 some ((0:Int),r1.1,r1.2)
 else
 bindF (f72 r1.2) fun r2 =>
 bindF (f74 r2.2 r2.1 (0:Int) want) fun r3 =>
 bindF (f73 r3.2.2.2 r3.2.1 r3.2.2.1 (3:Int) out r3.1 (0:Int)) fun r4 =>
 bindF (f73 r4.2.2.2 r4.2.1 r4.2.2.1 (11:Int) r4.1 (0:Int) (4:Int)) fun r5 =>
 bindF (f73 r5.2.2.2 r5.2.1 r5.2.2.1 (10:Int) r5.1 (0:Int) (0:Int)) fun r6 =>
 bindF (f75 r6.2.2.2 r6.2.1 r6.2.2.1 r6.1) fun r7 =>
 some (r7.1,r7.2.1,r7.2.2.2.2)
def C32 : Con where
 X := NL×Int×LI
 Y := Int×Int×NL
 e := 2
 args x := [P0 0 0,.dat T2 x.2.1,.dat T1 x.2.2]
 hin x := [(0,.cells [(.osl 1)]),(1,.arr 74 T0 x.1)]
 F x := f32 x.1 x.2.1 x.2.2
 ret y := [.dat T2 y.1,.dat T2 y.2.1]
 hout y := [(0,.cells [(.osl 2)]),(2,.arr 74 T0 y.2.2)]
 nout := 3
theorem C32_vc (t_l : NL) (out:Int) (want : LI) (y : Int×Int×NL) (q : f32 t_l out want = some y) : VE Tryz.f32 2 C32 (t_l,out,want) y := by
 unfold f32 at q
 refine OL (OL (OL ?_))
 obtain ⟨r1,hr1,q⟩ := bE q
 refine OL (AI f71_in (cV (cQ C71 (t_l,out,want) r1 I2 false C71_holds hr1 rfl rfl (R2 (AI NH (R2 (AJ (AI (R2 TV) (OL (cI q (fun q=>?_) (fun q=>?_)))))))))))
 ·cases sE q
  refine OL (AI rfl (E4 [(0,some 0),(2,some 1)] (R3 (AI TV (R2 TV)))))
 refine OL ?_
 obtain ⟨r2,hr2,q⟩ := bE q
 refine OL (AI f72_in (cV (cQ C72 r1.2 r2 I2 false C72_holds hr2 rfl rfl (AI NH (R2 (AJ (AI (R2 TV) (OL ?_))))))))
 obtain ⟨r3,hr3,q⟩ := bE q
 refine OL (AI f74_in (cV (cQ C74 (r2.2,r2.1,(0:Int),want) r3 [(0,some 6),(1,some 0),(2,some 1)] false C74_holds hr3 rfl rfl (AI rfl (AI NH (R2 (AJ (AI (R3 TV) ?_))))))))
 obtain ⟨r4,hr4,q⟩ := bE q
 refine OL (AI f73_in (cV (cQ C73 (r3.2.2.2,r3.2.1,r3.2.2.1,(3:Int),out,r3.1,(0:Int)) r4 [(0,some 6),(1,some 0),(2,some 10)] false C73_holds hr4 rfl rfl (R4 (AI NH (R2 (AJ (AI (R3 TV) (OL ?_)))))))))
 obtain ⟨r5,hr5,q⟩ := bE q
 refine OL (AI f73_in (cV (cQ C73 (r4.2.2.2,r4.2.1,r4.2.2.1,(11:Int),r4.1,(0:Int),(4:Int)) r5 [(0,some 6),(1,some 0),(2,some 14)] false C73_holds hr5 rfl rfl (R4 (AI NH (R2 (AJ (AI (R3 TV) ?_))))))))
 obtain ⟨r6,hr6,q⟩ := bE q
 refine OL (AI f73_in (cV (cQ C73 (r5.2.2.2,r5.2.1,r5.2.2.1,(10:Int),r5.1,(0:Int),(0:Int)) r6 [(0,some 6),(1,some 0),(2,some 18)] false C73_holds hr6 rfl rfl (R4 (AI NH (R2 (AJ (AI (R3 TV) ?_))))))))
 obtain ⟨r7,hr7,q⟩ := bE q
 refine OL (AI f75_in (cV (cQ C75 (r6.2.2.2,r6.2.1,r6.2.2.1,r6.1) r7 [(0,some 6),(1,some 0),(2,some 22)] false C75_holds hr7 rfl rfl (AI rfl (AI NH (R2 (AJ (AI (R3 TV) ?_))))))))
 cases sE q
 refine AI rfl (E4 [(0,some 0),(2,some 26)] (R3 (AI TV (R2 TV))))
theorem C32_holds : HP C32 32 := hH Tryz.f32 (by kernel_rfl) rfl (fun x y q=>C32_vc x.1 x.2.1 x.2.2 y q)
theorem f32_in : InP 32 := inP (by kernel_rfl)
def f11_j1 (l : LI) : Option (Sum Unit Unit) :=
 bif (decide ((List.length l:Int) < (1:Int))) then
 some (Sum.inr ())
 else
 bif (decide ((List.length l:Int) > (60:Int))) then
 some (Sum.inr ())
 else
 some (Sum.inl ())
def f11 (l : LI) : Option Bool :=
 bindF (f29) fun q13_50 =>
 bif (!q13_50) then
 some false
 else
 bindF (f11_j1 l) fun z1 =>
 sumF z1 (fun z1a =>
 bindF (f13) fun r2 =>
 bindF (f30 l) fun r3 =>
 bindF (f14 ([]) (r3.2,r3.1)) fun r4 =>
 bindF (f31 r4.2.2 r4.1 l) fun r5 =>
 bindF (f32 r5.2.2 r4.1 l) fun r6 =>
 bindF (f26 r6.2.2 r5.1) fun r7 =>
 bindF (f26 r7.2.2.2 r6.1) fun r8 =>
 bindF (f16 r8.2.2.2 r5.1) fun r9 =>
 bindF (f16 r9.2.2 r6.1) fun r10 =>
 bif (r5.2.1 == (0:Int)) then
 bif (r6.2.1 == (0:Int)) then
 bif (r9.1 == (0:Int)) then
 bif (r10.1 == (0:Int)) then
 guardF (0 ≤ (0:Int) ∧ (0:Int) < (List.length r7.2.2.1:Int)) <|
 bif ((rd (0:Int) r7.2.2.1 (0:Int)) == (0:Int)) then
 guardF (0 ≤ (0:Int) ∧ (0:Int) < (List.length r8.2.2.1:Int)) <|
 bif ((rd (0:Int) r8.2.2.1 (0:Int)) == (0:Int)) then
 guardF (0 ≤ r4.1 ∧ r4.1 < (List.length r9.2.1:Int)) <|
 bindF (f23 ([(List.length l:Int)]) (0:Int)) fun q13_36 =>
 bindF (f19 ((rd (Ty.z T3) r9.2.1 r4.1).1,(rd (Ty.z T3) r9.2.1 r4.1).2) (q13_36.1,q13_36.2)) fun q13_37 =>
 bif q13_37 then
 guardF (0 ≤ r4.1 ∧ r4.1 < (List.length r10.2.1:Int)) <|
 guardF (0 ≤ r4.1 ∧ r4.1 < (List.length r9.2.1:Int)) <|
 bindF (f19 ((rd (Ty.z T3) r10.2.1 r4.1).1,(rd (Ty.z T3) r10.2.1 r4.1).2) ((rd (Ty.z T3) r9.2.1 r4.1).1,(rd (Ty.z T3) r9.2.1 r4.1).2)) fun q13_48 =>
 some q13_48
 else
 some false
 else
 some false
 else
 some false
 else
 some false
 else
 some false
 else
 some false
 else
 some false) (fun z1b =>
 some true)
def C11 : Con where
 X := LI
 Y := Bool
 e := 0
 args x := [.dat T1 x]
 hin x := []
 F x := f11 x
 ret y := [.dat .bool y]
 hout y := []
 nout := 0
theorem C11_vc (l : LI) (y : Bool) (q : f11 l = some y) : VC Tryz.f11 C11 l y := by
 unfold f11 at q
 refine OL (OL (OL ?_))
 obtain ⟨q13_50,hq13_50,q⟩ := bE q
 refine OL (AI f29_in (cV (cQ C29 () q13_50 [] false C29_holds hq13_50 rfl rfl (K0 (cI q (fun q=>?_) (fun q=>?_))))))
 ·cases sE q
  refine OL (AI rfl (E4 [] (R2 (AI TV TV))))
 obtain ⟨z1,hz1,q⟩ := bE q
 refine OQ ⟨Sum.elim (fun z1a=>[(0,⟨[(0,.dat T1 l)],[],0⟩)]) (fun z1b=>[(1,⟨[(2,.dat .bool true)],[],0⟩)]) z1,?_,?_⟩
 ·have q := hz1
  clear hz1
  unfold f11_j1 at q
  refine OL (cN q (fun q=>?_) (fun q=>?_))
  ·refine gY (gY (cF (cI q (fun q=>?_) (fun q=>?_))))
   ·cases sE q
    refine OL (E4 [] (R2 (AI TV TV)))
   cases sE q
   refine E4 [] (R2 (AI TV TV))
  refine gN (gN (cT (cT (OL ?_))))
  cases sE q
  refine E4 [] (R2 (AI TV TV))
 rcases z1 with z1a | z1b
 ·dsimp only [sumF] at q
  refine AI (OL ?_) TV
  obtain ⟨r2,hr2,q⟩ := bE q
  refine OL (AI f13_in (cV (cQ C13 () r2 [] false C13_holds hr2 rfl rfl (K0 (OL ?_)))))
  obtain ⟨r3,hr3,q⟩ := bE q
  refine OL (AI f30_in (cV (cQ C30 l r3 [] false C30_holds hr3 rfl rfl (AI rfl (K0 ?_)))))
  obtain ⟨r4,hr4,q⟩ := bE q
  refine OL (AI f14_in (cV (cQ C14 ([],(r3.2,r3.1)) r4 I2 false C14_holds hr4 rfl rfl (R2 (AI NH (R2 (AJ (AI (R2 TV) (OL ?_)))))))))
  obtain ⟨r5,hr5,q⟩ := bE q
  refine OL (AI f31_in (cV (cQ C31 (r4.2.2,r4.1,l) r5 [(0,some 0),(1,some 5)] false C31_holds hr5 rfl rfl (R2 (AI NH (R2 (AJ (AI (R2 TV) (OL ?_)))))))))
  obtain ⟨r6,hr6,q⟩ := bE q
  refine OL (AI f32_in (cV (cQ C32 (r5.2.2,r4.1,l) r6 [(0,some 0),(1,some 8)] false C32_holds hr6 rfl rfl (R2 (AI NH (R2 (AJ (AI (R2 TV) (OL ?_)))))))))
  obtain ⟨r7,hr7,q⟩ := bE q
  refine OL (AI f26_in (cV (cQ C26 (r6.2.2,r5.1) r7 [(0,some 0),(1,some 11)] false C26_holds hr7 rfl rfl (AI rfl (AI NH (R2 (AJ (AI (R2 TV) (OL (OL ?_))))))))))
  obtain ⟨r8,hr8,q⟩ := bE q
  refine OL (AI f26_in (cV (cQ C26 (r7.2.2.2,r6.1) r8 [(0,some 0),(1,some 11)] false C26_holds hr8 rfl rfl (AI rfl (AI NH (R2 (AJ (AI (R2 TV) (OL (OL ?_))))))))))
  obtain ⟨r9,hr9,q⟩ := bE q
  refine OL (AI f16_in (cV (cQ C16 (r8.2.2.2,r5.1) r9 [(0,some 0),(1,some 11)] false C16_holds hr9 rfl rfl (AI rfl (AI NH (R2 (AJ (AI (R2 TV) (OL ?_)))))))))
  obtain ⟨r10,hr10,q⟩ := bE q
  refine OL (AI f16_in (cV (cQ C16 (r9.2.2,r6.1) r10 [(0,some 0),(1,some 11)] false C16_holds hr10 rfl rfl (AI rfl (AI NH (R2 (AJ (AI (R2 TV) (OL (EI (.take 0 (.take 1 (.take 2 (.take 3 (.take 4 (.take 5 (.take 6 (.take 7 (.take 8 (.take 9 (.take 10 (.take 11 (.take 12 (.take 13 (.take 14 (.take 15 (.take 16 (.take 17 (.take 18 (.take 19 (.take 20 (.take 21 (.take 22 (.take 23 (.take 24 (.take 25 (.take 26 (.take 27 (.take 28 (.take 29 (.take 30 (.take 31 (.take 32 (.take 33 (.take 34 (.alt 35 (.alt 36 (.alt 37 (.take 38 (.take 39 (.take 40 (.take 41 (.take 42 (.take 43 (.take 44 (.take 45 (.take 46 (.take 47 (.alt 48 (.take 49 (.take 50 .done)) .done))))))))))) .done) .done) .done)))))))))))))))))))))))))))))))))))) (EI [] (EI [] (AI rfl (cI q (fun q=>?_) (fun q=>?_)))))))))))))))
  ·refine gX (cT (cI q (fun q=>?_) (fun q=>?_)))
   ·refine gX (cT (cI q (fun q=>?_) (fun q=>?_)))
    ·refine gX (cT (cI q (fun q=>?_) (fun q=>?_)))
     ·refine gX (gX (gI q (fun q=>?_)))
      refine gX (gX (cT (cI q (fun q=>?_) (fun q=>?_))))
      ·refine gX (gX (gI q (fun q=>?_)))
       refine gX (gX (cT (cI q (fun q=>?_) (fun q=>?_))))
       ·refine gX (gX (gI q (fun q=>?_)))
        refine gX (gX (gX (AI TV (gX (OL (AI TV (gX ?_)))))))
        obtain ⟨q13_36,hq13_36,q⟩ := bE q
        refine OL (AI f23_in (cV (cQ C23 ([(List.length l:Int)],(0:Int)) q13_36 [] true C23_holds hq13_36 rfl rfl (R2 (AI (fun _=>rfl) (R2 (AI TV (AI TV (AI TV (gX ?_))))))))))
        obtain ⟨q13_37,hq13_37,q⟩ := bE q
        refine OL (AI f19_in (cV (cQ C19 (((rd (Ty.z T3) r9.2.1 r4.1).1,(rd (Ty.z T3) r9.2.1 r4.1).2),(q13_36.1,q13_36.2)) q13_37 [] true C19_holds hq13_37 rfl rfl (R4 (AI (fun _=>rfl) (R2 (AI TV (AI TV (cT (cI q (fun q=>?_) (fun q=>?_)))))))))))
        ·refine gX (gX (gI q (fun q=>?_)))
         refine gX (gX (gX (gX (gI q (fun q=>?_)))))
         refine gX (AI TV (gX ?_))
         obtain ⟨q13_48,hq13_48,q⟩ := bE q
         refine OL (AI f19_in (cV (cQ C19 (((rd (Ty.z T3) r10.2.1 r4.1).1,(rd (Ty.z T3) r10.2.1 r4.1).2),((rd (Ty.z T3) r9.2.1 r4.1).1,(rd (Ty.z T3) r9.2.1 r4.1).2)) q13_48 [] false C19_holds hq13_48 rfl rfl (R4 (K0 (cT ?_))))))
         cases sE q
         refine AI rfl (E4 [] (R2 (AI TV TV)))
        refine gM (gM (gM (gM (gM (gM (gM (AI TV (gM (cF ?_)))))))))
        cases sE q
        refine AI rfl (E4 [] (R2 (AI TV TV)))
       refine gM (gM (gM (gM (gM (AI TV (gM (AI TV (gM (AI TV (gM (cF (gM (gM (gM (gM (gM (gM (gM (gM (AI TV (gM (cF ?_))))))))))))))))))))))
       cases sE q
       refine AI rfl (E4 [] (R2 (AI TV TV)))
      refine gM (gM (gM (gM (cF (gM (gM (gM (gM (gM (gM (AI TV (gM (AI TV (gM (AI TV (gM (cF (gM (gM (gM (gM (gM (gM (gM (gM (AI TV (gM (cF ?_))))))))))))))))))))))))))))
      cases sE q
      refine AI rfl (E4 [] (R2 (AI TV TV)))
     refine gM (gM (gM (gM (cF (gM (gM (gM (gM (gM (cF (gM (gM (gM (gM (gM (gM (AI TV (gM (AI TV (gM (AI TV (gM (cF (gM (gM (gM (gM (gM (gM (gM (gM (AI TV (gM (cF ?_))))))))))))))))))))))))))))))))))
     cases sE q
     refine AI rfl (E4 [] (R2 (AI TV TV)))
    refine gM (cF (gM (gM (gM (gM (gM (cF (gM (gM (gM (gM (gM (cF (gM (gM (gM (gM (gM (gM (AI TV (gM (AI TV (gM (AI TV (gM (cF (gM (gM (gM (gM (gM (gM (gM (gM (AI TV (gM (cF ?_)))))))))))))))))))))))))))))))))))))
    cases sE q
    refine AI rfl (E4 [] (R2 (AI TV TV)))
   refine gM (cF (gM (gM (cF (gM (gM (gM (gM (gM (cF (gM (gM (gM (gM (gM (cF (gM (gM (gM (gM (gM (gM (AI TV (gM (AI TV (gM (AI TV (gM (cF (gM (gM (gM (gM (gM (gM (gM (gM (AI TV (gM (cF ?_))))))))))))))))))))))))))))))))))))))))
   cases sE q
   refine AI rfl (E4 [] (R2 (AI TV TV)))
  refine gM (cF (gM (gM (cF (gM (gM (cF (gM (gM (gM (gM (gM (cF (gM (gM (gM (gM (gM (cF (gM (gM (gM (gM (gM (gM (AI TV (gM (AI TV (gM (AI TV (gM (cF (gM (gM (gM (gM (gM (gM (gM (gM (AI TV (gM (cF ?_)))))))))))))))))))))))))))))))))))))))))))
  cases sE q
  refine AI rfl (E4 [] (R2 (AI TV TV)))
 dsimp only [sumF] at q
 refine AI ?_ TV
 cases sE q
 refine AI rfl (E4 [] (R2 (AI TV TV)))
theorem C11_holds : HP C11 11 := hH Tryz.f11 (by kernel_rfl) rfl (fun x y q=>C11_vc x y q)
theorem f11_in : InP 11 := inP (by kernel_rfl)
end Go.Proofs
