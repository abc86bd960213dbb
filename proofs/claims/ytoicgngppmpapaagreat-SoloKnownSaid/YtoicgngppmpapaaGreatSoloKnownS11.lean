import Derived.Test.YtoicgngppmpapaaGreatSoloKnownS10
set_option linter.unusedVariables false
set_option maxRecDepth 100000
set_option maxHeartbeats 8000000
namespace Go.Proofs
open Go.AM
open IntKind (i64 u64 i32 u32 i16 u16 i8 u8)
def f45 (j : (LI×(List (ByteArray×Int×Int)))×Int×Int×(Int×Int×Int)×(List (LI×LI×Int))×LI) : Option (Sum Int (LI×(List (ByteArray×Int×Int))×Int×Int×Int×Int×Int×(List (LI×LI×Int))×LI×LI×LI)) :=
 bindF (f47 ((j.1.1,j.1.2),j.2.1,j.2.2.1,(j.2.2.2.1.1,j.2.2.2.1.2.1,j.2.2.2.1.2.2),j.2.2.2.2.1,j.2.2.2.2.2)) fun q4_8 =>
 bif (q4_8 != (0:Int)) then
 some (Sum.inl q4_8)
 else
 bindF (f90 ((j.1.1,j.1.2),j.2.1,j.2.2.1,(j.2.2.2.1.1,j.2.2.2.1.2.1,j.2.2.2.1.2.2),j.2.2.2.2.1,j.2.2.2.2.2)) fun q4_1 =>
 bindF (f91 j.2.2.2.2.2) fun q4_4 =>
 some (Sum.inr (q4_1.2.2.2.2.2.1,q4_1.2.2.2.2.2.2.1,q4_1.1,q4_1.2.1,q4_1.2.2.1,q4_1.2.2.2.1,q4_1.2.2.2.2.1,q4_1.2.2.2.2.2.2.2.1,q4_1.2.2.2.2.2.2.2.2,q4_4.1,q4_4.2))
def C45 : Con where
 X := (LI×(List (ByteArray×Int×Int)))×Int×Int×(Int×Int×Int)×(List (LI×LI×Int))×LI
 Y := Sum Int (LI×(List (ByteArray×Int×Int))×Int×Int×Int×Int×Int×(List (LI×LI×Int))×LI×LI×LI)
 e := 0
 args x := [.dat T12 x]
 hin x := []
 F x := f45 x
 ret y := Sum.elim (fun y=>[.raw false [(.c (.pointer none))],.dat T2 y]) (fun y=>[P0 0 0,D0 0]) y
 hout y := Sum.elim (fun y=>[]) (fun y=>[(0,.cells [(.d T1 y.1),(.d T8 y.2.1),(.d T2 y.2.2.1),(.d T2 y.2.2.2.1),(.d T2 y.2.2.2.2.1),(.d T2 y.2.2.2.2.2.1),(.d T2 y.2.2.2.2.2.2.1),(.d T11 y.2.2.2.2.2.2.2.1),(.d T1 y.2.2.2.2.2.2.2.2.1),(.osl 1),(.osl 2),(.d T2 (0:Int)),(.d T2 (0:Int)),(.d T4 (0:Int))]),(1,.arr 40 T2 y.2.2.2.2.2.2.2.2.2.1),(2,.arr 40 T2 y.2.2.2.2.2.2.2.2.2.2)]) y
 nout := 3
theorem C45_vc (j : (LI×(List (ByteArray×Int×Int)))×Int×Int×(Int×Int×Int)×(List (LI×LI×Int))×LI) (y : Sum Int (LI×(List (ByteArray×Int×Int))×Int×Int×Int×Int×Int×(List (LI×LI×Int))×LI×LI×LI)) (q : f45 j = some y) : VC Tryz.f45 C45 j y := by
 unfold f45 at q
 refine OL (OL (OL ?_))
 obtain ⟨q4_8,hq4_8,q⟩ := bE q
 refine OL (AI f47_in (cV (cQ C47 ((j.1.1,j.1.2),j.2.1,j.2.2.1,(j.2.2.2.1.1,j.2.2.2.1.2.1,j.2.2.2.1.2.2),j.2.2.2.2.1,j.2.2.2.2.2) q4_8 [] false C47_holds hq4_8 rfl rfl (R2 (K0 (OL (cI q (fun q=>?_) (fun q=>?_))))))))
 ·cases sE q
  refine OL (AI rfl (E4 [] (R2 (AJ TV))))
 refine OL (EI (.take 0 (.take 2 (.take 3 (.alt 1 (.alt 4 (.take 5 (.alt 6 (.take 7 (.take 8 .done)) .done)) .done) .done)))) (EI [] (EI [] (AI rfl (AI TV ?_)))))
 obtain ⟨q4_1,hq4_1,q⟩ := bE q
 refine OL (AI f90_in (cV (cQ C90 ((j.1.1,j.1.2),j.2.1,j.2.2.1,(j.2.2.2.1.1,j.2.2.2.1.2.1,j.2.2.2.1.2.2),j.2.2.2.2.1,j.2.2.2.2.2) q4_1 [] false C90_holds hq4_1 rfl rfl (R2 (K0 (AI TV ?_))))))
 obtain ⟨q4_4,hq4_4,q⟩ := bE q
 refine OL (AI f91_in (cV (cQ C91 j.2.2.2.2.2 q4_4 [] false C91_holds hq4_4 rfl rfl (AI rfl (K0 (AI TV ?_))))))
 cases sE q
 refine AI rfl (EI [] (EI [] (EI [] (EI [1,2,3,4] (EI [(0,some 7),(1,some 5),(2,some 6)] (R2 (AJ (R3 TV))))))))
theorem C45_holds : HP C45 45 := hH Tryz.f45 (by kernel_rfl) rfl (fun x y q=>C45_vc x y q)
theorem f45_in : InP 45 := inP (by kernel_rfl)
def f93_j1 (total:Int) (size:Int) (step:Int) : Option (Sum Unit Unit) :=
 bif (decide (total < (1:Int))) then
 some (Sum.inr ())
 else
 bif (decide (total > (256:Int))) then
 some (Sum.inr ())
 else
 bif (decide (size < (1:Int))) then
 some (Sum.inr ())
 else
 bif (decide (size > total)) then
 some (Sum.inr ())
 else
 bif (decide (step < (0:Int))) then
 some (Sum.inr ())
 else
 some (Sum.inl ())
def f93_l2 (total:Int) (size:Int) (step:Int) (go : (Int×LI) → Option LI) (v38:Int) (l0 : LI) : Option LI :=
 bif (decide (v38 < size)) then
 guardF (total ≠ 0) <|
 guardF ((List.length l0 + List.length ([(Int.tmod (i64.wrap ((Int.tmod (i64.wrap ((Int.tmod step total) * size)) total) + v38)) total)])) * 8 ≤ 140737488355328) <|
 go ((i64.wrap (v38 + (1:Int))),(l0 ++ ([(Int.tmod (i64.wrap ((Int.tmod (i64.wrap ((Int.tmod step total) * size)) total) + v38)) total)])))
 else
 some l0
def f93 (total:Int) (size:Int) (step:Int) : Option (Int×LI) :=
 bindF (f93_j1 total size step) fun z1 =>
 sumF z1 (fun z1a =>
 guardF (total ≠ 0) <|
 guardF (total ≠ 0) <|
 bindF (loopF (fun go x=>f93_l2 total size step go x.1 x.2) fuelN ((0:Int),[])) fun z2 =>
 some ((0:Int),z2)) (fun z1b =>
 some ((1:Int),[]))
def C93 : Con where
 X := Int×Int×Int
 Y := Int×LI
 e := 0
 args x := [.dat T2 x.1,.dat T2 x.2.1,.dat T2 x.2.2]
 hin x := []
 F x := f93 x.1 x.2.1 x.2.2
 ret y := [O0 0,.dat T2 y.1]
 hout y := [(0,.arr 3 T2 y.2)]
 nout := 1
theorem C93_vc (total:Int) (size:Int) (step:Int) (y : Int×LI) (q : f93 total size step = some y) : VC Tryz.f93 C93 (total,size,step) y := by
 unfold f93 at q
 refine OL ?_
 obtain ⟨z1,hz1,q⟩ := bE q
 refine OQ ⟨Sum.elim (fun z1a=>[(0,⟨[(0,.dat T2 total),(1,.dat T2 size),(2,.dat T2 step)],[],0⟩)]) (fun z1b=>[(1,⟨[(6,.raw false [N0]),(7,D0 1)],[],0⟩)]) z1,?_,?_⟩
 ·have q := hz1
  clear hz1
  unfold f93_j1 at q
  refine OL (cN q (fun q=>?_) (fun q=>?_))
  ·refine gY (cF (cN q (fun q=>?_) (fun q=>?_)))
   ·refine gY (cF (cN q (fun q=>?_) (fun q=>?_)))
    ·refine gY (gY (cF (cN q (fun q=>?_) (fun q=>?_))))
     ·refine gY (cF (cI q (fun q=>?_) (fun q=>?_)))
      ·cases sE q
       refine OL (E4 [] (R2 (AJ TV)))
      cases sE q
      refine E4 [] (R4 (AI TV TV))
     refine gN (cT (cT (OL ?_)))
     cases sE q
     refine E4 [] (R2 (AJ TV))
    refine gN (gN (cT (gN (gN (cT (cT (OL ?_)))))))
    cases sE q
    refine E4 [] (R2 (AJ TV))
   refine gN (cT (gN (gN (gN (cT (gN (gN (cT (cT (OL ?_))))))))))
   cases sE q
   refine E4 [] (R2 (AJ TV))
  refine gN (cT (gN (gN (cT (gN (gN (gN (cT (gN (gN (cT (cT (OL ?_)))))))))))))
  cases sE q
  refine E4 [] (R2 (AJ TV))
 rcases z1 with z1a | z1b
 ·dsimp only [sumF] at q
  refine AI (OL (gI q (fun q=>?_))) TV
  refine gI q (fun q=>?_)
  refine OL (OL (OL ?_))
  obtain ⟨z2,hz2,q⟩ := bE q
  refine lI (Int×LI) LI (fun x=>⟨[(0,.dat T2 total),(8,.dat T2 (Int.tmod (i64.wrap ((Int.tmod step total) * size)) total)),(9,O0 0),(37,.dat T2 size),(38,.dat T2 x.1)],[(0,.arr 3 T2 x.2)],1⟩) (fun z=>[(2,⟨[(9,O0 0)],[(0,.arr 3 T2 z)],1⟩)]) (loopF (fun go x=>f93_l2 total size step go x.1 x.2)) fuelN ((0:Int),[]) z2 (AI hz2 (AI (E4 [(0,none)] (R5 (AJ (AI rfl TV)))) (AI (fun _ _ h=>lZ h) (AI (fun m=>curI (fun v38=>fun l0 z q=>?_)) ?_))))
  ·have q : f93_l2 total size step (loopF (fun go x=>f93_l2 total size step go x.1 x.2) m) v38 l0 = some z := q
   unfold f93_l2 at q
   refine OL (OL (cI q (fun q=>?_) (fun q=>?_)))
   ·refine OL (OL (gI q (fun q=>?_)))
    refine OL (OL (gI q (fun q=>?_)))
    refine EI ((i64.wrap (v38 + (1:Int))),(l0 ++ ([(Int.tmod (i64.wrap ((Int.tmod (i64.wrap ((Int.tmod step total) * size)) total) + v38)) total)]))) (AI q (E4 [(0,some 2)] (R5 (AJ (AI rfl TV)))))
   cases sE q
   refine E4 [(0,some 0)] (AI rfl (AJ (AI rfl TV)))
  refine AI (OL ?_) TV
  cases sE q
  refine AI rfl (E4 [(0,some 0)] (R2 (AJ (AI rfl TV))))
 dsimp only [sumF] at q
 refine AI ?_ TV
 cases sE q
 refine AI rfl (E4 [(0,none)] (R2 (AJ (AI rfl TV))))
theorem C93_holds : HP C93 93 := hH Tryz.f93 (by kernel_rfl) rfl (fun x y q=>C93_vc x.1 x.2.1 x.2.2 y q)
theorem f93_in : InP 93 := inP (by kernel_rfl)
def f94_l1 (j : (LI×(List (ByteArray×Int×Int)))×Int×Int×(Int×Int×Int)×(List (LI×LI×Int))×LI) (places : LI) (go : (Int×(List (LI×LI×Int))) → Option (List (LI×LI×Int))) (v10:Int) (l1 : List (LI×LI×Int)) : Option (List (LI×LI×Int)) :=
 bif (decide (v10 < (List.length places:Int))) then
 guardF (0 ≤ v10 ∧ v10 < (List.length places:Int)) <|
 guardF (0 ≤ (rd (0:Int) places v10) ∧ (rd (0:Int) places v10) < (List.length j.2.2.2.2.1:Int)) <|
 guardF ((List.length l1 + List.length ([((rd (Ty.z T10) j.2.2.2.2.1 (rd (0:Int) places v10)).1,((rd (Ty.z T10) j.2.2.2.2.1 (rd (0:Int) places v10)).2).1,((rd (Ty.z T10) j.2.2.2.2.1 (rd (0:Int) places v10)).2).2)])) * 56 ≤ 140737488355328) <|
 go ((i64.wrap (v10 + (1:Int))),(l1 ++ ([((rd (Ty.z T10) j.2.2.2.2.1 (rd (0:Int) places v10)).1,((rd (Ty.z T10) j.2.2.2.2.1 (rd (0:Int) places v10)).2).1,((rd (Ty.z T10) j.2.2.2.2.1 (rd (0:Int) places v10)).2).2)])))
 else
 some l1
def f94 (j : (LI×(List (ByteArray×Int×Int)))×Int×Int×(Int×Int×Int)×(List (LI×LI×Int))×LI) (places : LI) : Option (List (LI×LI×Int)) :=
 bindF (loopF (fun go x=>f94_l1 j places go x.1 x.2) fuelN ((0:Int),[])) fun z1 =>
 some z1
def C94 : Con where
 X := ((LI×(List (ByteArray×Int×Int)))×Int×Int×(Int×Int×Int)×(List (LI×LI×Int))×LI)×LI
 Y := List (LI×LI×Int)
 e := 0
 args x := [.dat T12 x.1,.dat T1 x.2]
 hin x := []
 F x := f94 x.1 x.2
 ret y := [O0 0]
 hout y := [(0,.arr 57 T10 y)]
 nout := 1
theorem C94_vc (j : (LI×(List (ByteArray×Int×Int)))×Int×Int×(Int×Int×Int)×(List (LI×LI×Int))×LI) (places : LI) (y : List (LI×LI×Int)) (q : f94 j places = some y) : VC Tryz.f94 C94 (j,places) y := by
 unfold f94 at q
 refine OL (OL (OL (OL ?_)))
 obtain ⟨z1,hz1,q⟩ := bE q
 refine lI (Int×(List (LI×LI×Int))) (List (LI×LI×Int)) (fun x=>⟨[(2,P0 0 0),(5,O0 1),(8,.dat T1 places),(9,.dat T2 (List.length places:Int)),(10,.dat T2 x.1)],[(0,.cells [(.d T1 j.1.1),(.d T8 j.1.2),(.d T2 j.2.1),(.d T2 j.2.2.1),(.d T2 j.2.2.2.1.1),(.d T2 j.2.2.2.1.2.1),(.d T2 j.2.2.2.1.2.2),(.d T11 j.2.2.2.2.1),(.d T1 j.2.2.2.2.2)]),(1,.arr 57 T10 x.2)],2⟩) (fun z=>[(2,⟨[(5,O0 0)],[(0,.arr 57 T10 z)],1⟩)]) (loopF (fun go x=>f94_l1 j places go x.1 x.2)) fuelN ((0:Int),[]) z1 (AI hz1 (AI (E4 [(0,some 0),(1,none)] (R4 (AI (R2 TV) (R2 TV)))) (AI (fun _ _ h=>lZ h) (AI (fun m=>curI (fun v10=>fun l1 z q=>?_)) ?_))))
 ·have q : f94_l1 j places (loopF (fun go x=>f94_l1 j places go x.1 x.2) m) v10 l1 = some z := q
  unfold f94_l1 at q
  refine OL (OL (cI q (fun q=>?_) (fun q=>?_)))
  ·refine OL (OL (gI q (fun q=>?_)))
   refine gI q (fun q=>?_)
   refine OL (OL (gI q (fun q=>?_)))
   refine EI ((i64.wrap (v10 + (1:Int))),(l1 ++ ([((rd (Ty.z T10) j.2.2.2.2.1 (rd (0:Int) places v10)).1,((rd (Ty.z T10) j.2.2.2.2.1 (rd (0:Int) places v10)).2).1,((rd (Ty.z T10) j.2.2.2.2.1 (rd (0:Int) places v10)).2).2)]))) (AI q (E4 [(0,some 0),(1,some 3)] (R4 (AI (R2 TV) (R2 TV)))))
  cases sE q
  refine E4 [(0,some 1)] (AI rfl (AJ (AI rfl TV)))
 refine AI (OL ?_) TV
 cases sE q
 refine AI rfl (E4 [(0,some 0)] (AI rfl (AJ (AI rfl TV))))
theorem C94_holds : HP C94 94 := hH Tryz.f94 (by kernel_rfl) rfl (fun x y q=>C94_vc x.1 x.2 y q)
theorem f94_in : InP 94 := inP (by kernel_rfl)
def f145 (g : Int×Int) (many:Int) (bound:Int) : Option Int :=
 bindF (f170 (g.1,g.2) many) fun r1 =>
 bif (bound == (0:Int)) then
 some r1
 else
 some (if bound < (if (i64.wrap (0 - bound)) > r1 then (i64.wrap (0 - bound)) else r1) then bound else (if (i64.wrap (0 - bound)) > r1 then (i64.wrap (0 - bound)) else r1))
def C145 : Con where
 X := (Int×Int)×Int×Int
 Y := Int
 e := 0
 args x := [.dat T5 x.1,.dat T2 x.2.1,.dat T2 x.2.2]
 hin x := []
 F x := f145 x.1 x.2.1 x.2.2
 ret y := [.dat T2 y]
 hout y := []
 nout := 0
theorem C145_vc (g : Int×Int) (many:Int) (bound:Int) (y:Int) (q : f145 g many bound = some y) : VC Tryz.f145 C145 (g,many,bound) y := by
 unfold f145 at q
 refine OL (OL ?_)
 obtain ⟨r1,hr1,q⟩ := bE q
 refine OL (AI f170_in (cV (cQ C170 ((g.1,g.2),many) r1 [] false C170_holds hr1 rfl rfl (R3 (K0 (OL (OL (cI q (fun q=>?_) (fun q=>?_)))))))))
 ·cases sE q
  refine OL (AI rfl (E4 [] (R2 (AI TV TV))))
 cases sE q
 refine OL (AI rfl (E4 [] (R2 (AI TV TV))))
theorem C145_holds : HP C145 145 := hH Tryz.f145 (by kernel_rfl) rfl (fun x y q=>C145_vc x.1 x.2.1 x.2.2 y q)
theorem f145_in : InP 145 := inP (by kernel_rfl)
def f95_j4 (s : LI×LI) (g : List (Int×Int)) : Option Bool :=
 bif ((List.length s.1:Int) != (List.length s.2:Int)) then
 some true
 else
 some ((List.length s.1:Int) != (List.length g:Int))
def f95_j5 (many:Int) (r : Int×Int×Int) : Option Bool :=
 bif (decide (many < (1:Int))) then
 some true
 else
 some (decide (r.2.2 < (0:Int)))
def f95_j3 (s : LI×LI) (g : List (Int×Int)) (many:Int) (r : Int×Int×Int) : Option (Sum Unit Int) :=
 bindF (f95_j4 s g) fun z4 =>
 bif z4 then
 some (Sum.inr (4:Int))
 else
 bindF (f95_j5 many r) fun z5 =>
 bif z5 then
 some (Sum.inr (1:Int))
 else
 some (Sum.inl ())
def f95_j6 (s : LI×LI) : Option (LI×LI) :=
 bindF (f96 s.1) fun q5_2 =>
 bindF (f96 s.2) fun q5_5 =>
 some (q5_2,q5_5)
def f95_l7 (s : LI×LI) (g : List (Int×Int)) (many:Int) (r : Int×Int×Int) (go : (Int×LI×LI) → Option (LI×LI)) (v47:Int) (l4 : LI) (l5 : LI) : Option (LI×LI) :=
 bif (decide (v47 < (List.length g:Int))) then
 guardF (0 ≤ v47 ∧ v47 < (List.length s.2:Int)) <|
 guardF (0 ≤ v47 ∧ v47 < (List.length g:Int)) <|
 bindF (f144 r.2.1 (rd (0:Int) s.2 v47)) fun q9_10 =>
 bindF (f145 ((rd (Ty.z T5) g v47).1,(rd (Ty.z T5) g v47).2) many r.2.2) fun q9_18 =>
 bindF (f143 q9_10 q9_18) fun q9_19 =>
 guardF (0 ≤ v47 ∧ v47 < (List.length l5:Int)) <|
 guardF (0 ≤ v47 ∧ v47 < (List.length s.1:Int)) <|
 guardF (0 ≤ v47 ∧ v47 < (List.length (List.set l5 (Int.toNat v47) q9_19):Int)) <|
 bindF (f144 r.1 (rd (0:Int) (List.set l5 (Int.toNat v47) q9_19) v47)) fun q10_15 =>
 bindF (f146 (rd (0:Int) s.1 v47) q10_15) fun q10_16 =>
 guardF (0 ≤ v47 ∧ v47 < (List.length l4:Int)) <|
 go ((i64.wrap (v47 + (1:Int))),(List.set l4 (Int.toNat v47) q10_16),(List.set l5 (Int.toNat v47) q9_19))
 else
 some (l4,l5)
def f95 (s : LI×LI) (g : List (Int×Int)) (many:Int) (r : Int×Int×Int) : Option (Int×LI×LI) :=
 bindF (f95_j3 s g many r) fun z3 =>
 sumF z3 (fun z3a =>
 bindF (f95_j6 s) fun z6 =>
 bindF (loopF (fun go x=>f95_l7 s g many r go x.1 x.2.1 x.2.2) fuelN ((0:Int),z6.1,z6.2)) fun z7 =>
 some ((0:Int),z7.1,z7.2)) (fun z3b =>
 some (z3b,[],[]))
def C95 : Con where
 X := (LI×LI)×(List (Int×Int))×Int×(Int×Int×Int)
 Y := Int×LI×LI
 e := 0
 args x := [.dat T3 x.1,.dat T13 x.2.1,.dat T2 x.2.2.1,.dat T14 x.2.2.2]
 hin x := []
 F x := f95 x.1 x.2.1 x.2.2.1 x.2.2.2
 ret y := [.raw true [(.osl 0),(.osl 1)],.dat T2 y.1]
 hout y := [(0,.arr 40 T2 y.2.1),(1,.arr 40 T2 y.2.2)]
 nout := 2
theorem C95_vc (s : LI×LI) (g : List (Int×Int)) (many:Int) (r : Int×Int×Int) (y : Int×LI×LI) (q : f95 s g many r = some y) : VC Tryz.f95 C95 (s,g,many,r) y := by
 unfold f95 at q
 refine OL ?_
 obtain ⟨z3,hz3,q⟩ := bE q
 refine OQ ⟨Sum.elim (fun z3a=>[(0,⟨[(1,.dat T13 g),(2,.dat T2 many),(4,P0 0 0),(7,P0 1 0),(8,P0 2 0)],[(0,.cells [(.d T1 s.1),(.d T1 s.2)]),(1,.cells [(.d T2 r.1),(.d T2 r.2.1),(.d T2 r.2.2)]),(2,.cells [N0,N0])],3⟩)]) (fun z3b=>[(1,⟨[(8,P0 0 0),(9,.dat T2 z3b)],[(0,.cells [N0,N0])],1⟩)]) z3,?_,?_⟩
 ·have q := hz3
  clear hz3
  unfold f95_j3 at q
  obtain ⟨z4,hz4,q⟩ := bE q
  refine OQ ⟨[(0,⟨[(1,.dat T13 g),(2,.dat T2 many),(4,P0 0 0),(7,P0 1 0),(8,P0 2 0),(12,.dat .bool z4)],[(0,.cells [(.d T1 s.1),(.d T1 s.2)]),(1,.cells [(.d T2 r.1),(.d T2 r.2.1),(.d T2 r.2.2)]),(2,.cells [N0,N0])],3⟩)],?_,?_⟩
  ·have q := hz4
   clear hz4
   unfold f95_j4 at q
   refine cN q (fun q=>?_) (fun q=>?_)
   ·refine gY (gY (gY (gY (gY (cF ?_)))))
    cases sE q
    refine E4 I3 (R4 (AI (R3 TV) (R3 TV)))
   refine gN (gN (gN (gN (gN (cT ?_)))))
   cases sE q
   refine E4 I3 (R4 (AI (R3 TV) (R3 TV)))
  refine AI (cI q (fun q=>?_) (fun q=>?_)) TV
  ·refine OL (OL ?_)
   cases sE q
   refine E4 [(0,some 2)] (R2 (AJ (AI rfl TV)))
  obtain ⟨z5,hz5,q⟩ := bE q
  refine OQ ⟨[(0,⟨[(1,.dat T13 g),(2,.dat T2 many),(4,P0 0 0),(7,P0 1 0),(8,P0 2 0),(29,.dat .bool z5)],[(0,.cells [(.d T1 s.1),(.d T1 s.2)]),(1,.cells [(.d T2 r.1),(.d T2 r.2.1),(.d T2 r.2.2)]),(2,.cells [N0,N0])],3⟩)],?_,?_⟩
  ·have q := hz5
   clear hz5
   unfold f95_j5 at q
   refine cN q (fun q=>?_) (fun q=>?_)
   ·refine gY (gY (cF ?_))
    cases sE q
    refine E4 I3 (R4 (AI (R3 TV) (R3 TV)))
   refine gN (gN (cT ?_))
   cases sE q
   refine E4 I3 (R4 (AI (R3 TV) (R3 TV)))
  refine AI (cI q (fun q=>?_) (fun q=>?_)) TV
  ·refine OL (OL ?_)
   cases sE q
   refine E4 [(0,some 2)] (R2 (AJ (AI rfl TV)))
  cases sE q
  refine E4 I3 (R3 (AI (R3 TV) (R3 TV)))
 rcases z3 with z3a | z3b
 ·dsimp only [sumF] at q
  refine AI ?_ TV
  obtain ⟨z6,hz6,q⟩ := bE q
  refine OQ ⟨[(0,⟨[(1,.dat T13 g),(2,.dat T2 many),(4,P0 0 0),(7,P0 1 0),(8,P0 2 0),(10,P0 3 0)],[(0,.cells [(.d T1 s.1),(.d T1 s.2)]),(1,.cells [(.d T2 r.1),(.d T2 r.2.1),(.d T2 r.2.2)]),(2,.cells [N0,N0]),(3,.cells [(.osl 4),(.osl 5)]),(4,.arr 40 T2 z6.1),(5,.arr 40 T2 z6.2)],6⟩)],?_,?_⟩
  ·have q := hz6
   clear hz6
   unfold f95_j6 at q
   obtain ⟨q5_2,hq5_2,q⟩ := bE q
   obtain ⟨q5_5,hq5_5,q⟩ := bE q
   refine EI (.take 0 (.take 1 (.take 3 (.take 4 (.alt 2 (.alt 5 (.take 6 (.alt 7 (.alt 8 .done .done) .done)) (.alt 7 (.alt 5 (.take 6 (.alt 8 .done .done)) .done) .done)) (.alt 7 (.alt 2 (.alt 5 (.take 6 (.alt 8 .done .done)) .done) .done) .done)))))) (EI [] (EI [] (AI rfl (AI (AI TV ?_) ?_))))
   ·refine AI TV (OL (AI f96_in (cV (cQ C96 s.1 q5_2 [] false C96_holds hq5_2 rfl rfl (AI rfl (K0 (AI TV (OL (AI f96_in (cV (cQ C96 s.2 q5_5 [] false C96_holds hq5_5 rfl rfl (AI rfl (K0 (AI TV (OL ?_)))))))))))))))
    cases sE q
    refine E4 I6 (R3 (AI (R4 TV) (R6 TV)))
   refine OL (AI f96_in (cV (cQ C96 s.1 q5_2 [] false C96_holds hq5_2 rfl rfl (AI rfl (K0 (AI (AI TV ?_) ?_))))))
   ·refine AI TV (OL (AI f96_in (cV (cQ C96 s.2 q5_5 [] false C96_holds hq5_5 rfl rfl (AI rfl (K0 (AI TV (OL ?_))))))))
    cases sE q
    refine E4 [(0,some 0),(1,some 1),(2,some 2),(3,some 4),(4,some 3),(5,some 5)] (R3 (AI (R4 TV) (R6 TV)))
   refine OL (AI f96_in (cV (cQ C96 s.2 q5_5 [] false C96_holds hq5_5 rfl rfl (AI rfl (K0 (AI TV (AI TV (OL ?_))))))))
   cases sE q
   refine E4 [(0,some 0),(1,some 1),(2,some 2),(3,some 5),(4,some 3),(5,some 4)] (R3 (AI (R4 TV) (R6 TV)))
  refine AI (OL (OL ?_)) TV
  obtain ⟨z7,hz7,q⟩ := bE q
  refine lI (Int×LI×LI) (LI×LI) (fun x=>⟨[(1,.dat T13 g),(2,.dat T2 many),(4,P0 0 0),(7,P0 1 0),(8,P0 2 0),(10,P0 3 0),(46,.dat T2 (List.length g:Int)),(47,.dat T2 x.1)],[(0,.cells [(.d T1 s.1),(.d T1 s.2)]),(1,.cells [(.d T2 r.1),(.d T2 r.2.1),(.d T2 r.2.2)]),(2,.cells [N0,N0]),(3,.cells [(.osl 4),(.osl 5)]),(4,.arr 40 T2 x.2.1),(5,.arr 40 T2 x.2.2)],6⟩) (fun z=>[(3,⟨[(8,P0 0 0),(10,P0 1 0)],[(0,.cells [N0,N0]),(1,.cells [(.osl 2),(.osl 3)]),(2,.arr 40 T2 z.1),(3,.arr 40 T2 z.2)],4⟩)]) (loopF (fun go x=>f95_l7 s g many r go x.1 x.2.1 x.2.2)) fuelN ((0:Int),z6.1,z6.2) z7 (AI hz7 (AI (E4 I6 (R5 (AI (R4 TV) (R6 TV)))) (AI (fun _ _ h=>lZ h) (AI (fun m=>curI (fun v47=>curI (fun l4=>fun l5 z q=>?_))) ?_))))
  ·have q : f95_l7 s g many r (loopF (fun go x=>f95_l7 s g many r go x.1 x.2.1 x.2.2) m) v47 l4 l5 = some z := q
   unfold f95_l7 at q
   refine OL (OL (cI q (fun q=>?_) (fun q=>?_)))
   ·refine OL (OL (OL (EI (.take 0 (.take 1 (.take 2 (.take 3 (.take 4 (.take 5 (.take 6 (.take 7 (.take 8 (.take 9 (.take 11 (.take 12 (.take 13 (.take 14 (.take 15 (.take 16 (.take 17 (.alt 10 (.alt 18 (.alt 19 (.take 20 (.alt 21 .done .done)) .done) .done) .done)))))))))))))))))) (EI [] (EI [] (AI rfl (gI q (fun q=>?_))))))))
    refine gI q (fun q=>?_)
    refine AI TV ?_
    obtain ⟨q9_10,hq9_10,q⟩ := bE q
    refine OL (AI f144_in (cV (cQ C144 (r.2.1,(rd (0:Int) s.2 v47)) q9_10 [] false C144_holds hq9_10 rfl rfl (R2 (K0 (AI TV ?_))))))
    obtain ⟨q9_18,hq9_18,q⟩ := bE q
    refine OL (AI f145_in (cV (cQ C145 (((rd (Ty.z T5) g v47).1,(rd (Ty.z T5) g v47).2),many,r.2.2) q9_18 [] false C145_holds hq9_18 rfl rfl (R4 (K0 (AI TV ?_))))))
    obtain ⟨q9_19,hq9_19,q⟩ := bE q
    refine OL (AI f143_in (cV (cQ C143 (q9_10,q9_18) q9_19 [] false C143_holds hq9_19 rfl rfl (R2 (K0 (gI q (fun q=>?_)))))))
    refine AI TV (OL (EI (.take 0 (.take 1 (.take 2 (.take 3 (.take 4 (.take 5 (.take 6 (.take 7 (.take 8 (.take 9 (.take 10 (.take 11 (.take 12 (.take 13 (.take 14 (.alt 15 (.alt 16 (.take 17 (.alt 18 .done .done)) .done) .done)))))))))))))))) (EI [] (EI [] (AI rfl (gI q (fun q=>?_)))))))
    refine gI q (fun q=>?_)
    refine AI TV ?_
    obtain ⟨q10_15,hq10_15,q⟩ := bE q
    refine OL (AI f144_in (cV (cQ C144 (r.1,(rd (0:Int) (List.set l5 (Int.toNat v47) q9_19) v47)) q10_15 [] false C144_holds hq10_15 rfl rfl (R2 (K0 (AI TV ?_))))))
    obtain ⟨q10_16,hq10_16,q⟩ := bE q
    refine OL (AI f146_in (cV (cQ C146 ((rd (0:Int) s.1 v47),q10_15) q10_16 [] false C146_holds hq10_16 rfl rfl (R2 (K0 (gI q (fun q=>?_)))))))
    refine AI TV (OL (EI ((i64.wrap (v47 + (1:Int))),(List.set l4 (Int.toNat v47) q10_16),(List.set l5 (Int.toNat v47) q9_19)) (AI q (E4 I6 (R5 (AI (R4 TV) (R6 TV)))))))
   cases sE q
   refine E4 [(0,some 2),(1,some 3),(2,some 4),(3,some 5)] (AI rfl (AI (R2 TV) (R4 TV)))
  refine AI (OL (OL ?_)) TV
  cases sE q
  refine AI rfl (E4 [(0,some 2),(1,some 3)] (R2 (AJ (R2 TV))))
 dsimp only [sumF] at q
 refine AI ?_ TV
 cases sE q
 refine AI rfl (E4 [(0,none),(1,none)] (R2 (AJ (R2 TV))))
theorem C95_holds : HP C95 95 := hH Tryz.f95 (by kernel_rfl) rfl (fun x y q=>C95_vc x.1 x.2.1 x.2.2.1 x.2.2.2 y q)
theorem f95_in : InP 95 := inP (by kernel_rfl)
def f51_j1 (t_j_Net_In : LI) (t_j_Net_Layers : List (ByteArray×Int×Int)) (t_j_Kind:Int) (t_j_Batch:Int) (t_j_Rate_Step:Int) (t_j_Rate_Keep:Int) (t_j_Rate_Bound:Int) (t_j_Data : List (LI×LI×Int)) (t_j_P : LI) (t_s_P : LI) (q1_15 : Int×LI) : Option (Int×(List (Int×Int))×Int×Int) :=
 bindF (f94 ((t_j_Net_In,t_j_Net_Layers),t_j_Kind,t_j_Batch,(t_j_Rate_Step,t_j_Rate_Keep,t_j_Rate_Bound),t_j_Data,t_j_P) q1_15.2) fun q4_20 =>
 bindF (f38 (t_j_Net_In,t_j_Net_Layers) t_j_Kind t_s_P q4_20) fun q4_21 =>
 some (q4_21.2.2.1,q4_21.2.2.2,q4_21.1,q4_21.2.1)
def f51_j2 (t_j_Rate_Step:Int) (t_j_Rate_Keep:Int) (t_j_Rate_Bound:Int) (t_s_P : LI) (t_s_M : LI) (q1_15 : Int×LI) (z1 : Int×(List (Int×Int))×Int×Int) : Option (Int×LI×LI) :=
 bindF (f95 (t_s_P,t_s_M) z1.2.1 (List.length q1_15.2:Int) (t_j_Rate_Step,t_j_Rate_Keep,t_j_Rate_Bound)) fun q7_12 =>
 some (q7_12.1,q7_12.2.1,q7_12.2.2)
def f51 (t_j_Net_In : LI) (t_j_Net_Layers : List (ByteArray×Int×Int)) (t_j_Kind:Int) (t_j_Batch:Int) (t_j_Rate_Step:Int) (t_j_Rate_Keep:Int) (t_j_Rate_Bound:Int) (t_j_Data : List (LI×LI×Int)) (t_j_P : LI) (t_s_P : LI) (t_s_M : LI) (t_steps:Int) (t_loss_Hi:Int) (t_loss_Lo:Int) : Option (Int×LI×(List (ByteArray×Int×Int))×Int×Int×Int×Int×Int×(List (LI×LI×Int))×LI×Int×Int×Int×LI×LI) :=
 bindF (f93 (List.length t_j_Data:Int) t_j_Batch t_steps) fun q1_15 =>
 bif (q1_15.1 != (0:Int)) then
 some (q1_15.1,t_j_Net_In,t_j_Net_Layers,t_j_Kind,t_j_Batch,t_j_Rate_Step,t_j_Rate_Keep,t_j_Rate_Bound,t_j_Data,t_j_P,t_steps,t_loss_Hi,t_loss_Lo,t_s_P,t_s_M)
 else
 bindF (f51_j1 t_j_Net_In t_j_Net_Layers t_j_Kind t_j_Batch t_j_Rate_Step t_j_Rate_Keep t_j_Rate_Bound t_j_Data t_j_P t_s_P q1_15) fun z1 =>
 bif (z1.1 != (0:Int)) then
 some (z1.1,t_j_Net_In,t_j_Net_Layers,t_j_Kind,t_j_Batch,t_j_Rate_Step,t_j_Rate_Keep,t_j_Rate_Bound,t_j_Data,t_j_P,t_steps,t_loss_Hi,t_loss_Lo,t_s_P,t_s_M)
 else
 bindF (f51_j2 t_j_Rate_Step t_j_Rate_Keep t_j_Rate_Bound t_s_P t_s_M q1_15 z1) fun z2 =>
 bif (z2.1 != (0:Int)) then
 some (z2.1,t_j_Net_In,t_j_Net_Layers,t_j_Kind,t_j_Batch,t_j_Rate_Step,t_j_Rate_Keep,t_j_Rate_Bound,t_j_Data,t_j_P,t_steps,t_loss_Hi,t_loss_Lo,t_s_P,t_s_M)
 else
 some ((0:Int),t_j_Net_In,t_j_Net_Layers,t_j_Kind,t_j_Batch,t_j_Rate_Step,t_j_Rate_Keep,t_j_Rate_Bound,t_j_Data,t_j_P,(i64.wrap (t_steps + (1:Int))),z1.2.2.1,z1.2.2.2,z2.2.1,z2.2.2)
def C51 : Con where
 X := LI×(List (ByteArray×Int×Int))×Int×Int×Int×Int×Int×(List (LI×LI×Int))×LI×LI×LI×Int×Int×Int
 Y := Int×LI×(List (ByteArray×Int×Int))×Int×Int×Int×Int×Int×(List (LI×LI×Int))×LI×Int×Int×Int×LI×LI
 e := 3
 args x := [P0 0 0]
 hin x := [(0,.cells [(.d T1 x.1),(.d T8 x.2.1),(.d T2 x.2.2.1),(.d T2 x.2.2.2.1),(.d T2 x.2.2.2.2.1),(.d T2 x.2.2.2.2.2.1),(.d T2 x.2.2.2.2.2.2.1),(.d T11 x.2.2.2.2.2.2.2.1),(.d T1 x.2.2.2.2.2.2.2.2.1),(.osl 1),(.osl 2),(.d T2 x.2.2.2.2.2.2.2.2.2.2.2.1),(.d T2 x.2.2.2.2.2.2.2.2.2.2.2.2.1),(.d T4 x.2.2.2.2.2.2.2.2.2.2.2.2.2)]),(1,.arr 40 T2 x.2.2.2.2.2.2.2.2.2.1),(2,.arr 40 T2 x.2.2.2.2.2.2.2.2.2.2.1)]
 F x := f51 x.1 x.2.1 x.2.2.1 x.2.2.2.1 x.2.2.2.2.1 x.2.2.2.2.2.1 x.2.2.2.2.2.2.1 x.2.2.2.2.2.2.2.1 x.2.2.2.2.2.2.2.2.1 x.2.2.2.2.2.2.2.2.2.1 x.2.2.2.2.2.2.2.2.2.2.1 x.2.2.2.2.2.2.2.2.2.2.2.1 x.2.2.2.2.2.2.2.2.2.2.2.2.1 x.2.2.2.2.2.2.2.2.2.2.2.2.2
 ret y := [.dat T2 y.1]
 hout y := [(0,.cells [(.d T1 y.2.1),(.d T8 y.2.2.1),(.d T2 y.2.2.2.1),(.d T2 y.2.2.2.2.1),(.d T2 y.2.2.2.2.2.1),(.d T2 y.2.2.2.2.2.2.1),(.d T2 y.2.2.2.2.2.2.2.1),(.d T11 y.2.2.2.2.2.2.2.2.1),(.d T1 y.2.2.2.2.2.2.2.2.2.1),(.osl 3),(.osl 4),(.d T2 y.2.2.2.2.2.2.2.2.2.2.1),(.d T2 y.2.2.2.2.2.2.2.2.2.2.2.1),(.d T4 y.2.2.2.2.2.2.2.2.2.2.2.2.1)]),(3,.arr 40 T2 y.2.2.2.2.2.2.2.2.2.2.2.2.2.1),(4,.arr 40 T2 y.2.2.2.2.2.2.2.2.2.2.2.2.2.2)]
 nout := 5
theorem C51_vc (t_j_Net_In : LI) (t_j_Net_Layers : List (ByteArray×Int×Int)) (t_j_Kind:Int) (t_j_Batch:Int) (t_j_Rate_Step:Int) (t_j_Rate_Keep:Int) (t_j_Rate_Bound:Int) (t_j_Data : List (LI×LI×Int)) (t_j_P : LI) (t_s_P : LI) (t_s_M : LI) (t_steps:Int) (t_loss_Hi:Int) (t_loss_Lo:Int) (y : Int×LI×(List (ByteArray×Int×Int))×Int×Int×Int×Int×Int×(List (LI×LI×Int))×LI×Int×Int×Int×LI×LI) (q : f51 t_j_Net_In t_j_Net_Layers t_j_Kind t_j_Batch t_j_Rate_Step t_j_Rate_Keep t_j_Rate_Bound t_j_Data t_j_P t_s_P t_s_M t_steps t_loss_Hi t_loss_Lo = some y) : VE Tryz.f51 3 C51 (t_j_Net_In,t_j_Net_Layers,t_j_Kind,t_j_Batch,t_j_Rate_Step,t_j_Rate_Keep,t_j_Rate_Bound,t_j_Data,t_j_P,t_s_P,t_s_M,t_steps,t_loss_Hi,t_loss_Lo) y := by
 unfold f51 at q
 refine OL (OL (EI (.take 0 (.take 1 (.take 2 (.take 3 (.take 4 (.take 5 (.take 6 (.take 7 (.take 8 (.take 9 (.take 10 (.take 11 (.take 12 (.take 13 (.take 14 (.alt 15 (.take 16 (.take 17 (.take 18 (.take 19 (.take 20 .done))))) .done)))))))))))))))) (EI [] (EI [] (AI rfl (AI TV ?_))))))
 obtain ⟨q1_15,hq1_15,q⟩ := bE q
 refine OL (AI f93_in (cV (cQ C93 ((List.length t_j_Data:Int),t_j_Batch,t_steps) q1_15 [] false C93_holds hq1_15 rfl rfl (R3 (K0 (OL (OL (cI q (fun q=>?_) (fun q=>?_)))))))))
 ·cases sE q
  refine OL (AI rfl (E4 [(0,some 0),(3,some 1),(4,some 2)] (R2 (AI TV (R3 TV)))))
 obtain ⟨z1,hz1,q⟩ := bE q
 refine OQ ⟨[(0,⟨[(0,P0 0 0),(3,.dat T1 q1_15.2),(4,.dat T2 z1.1),(5,O0 3),(6,P0 4 0)],[(0,.cells [(.d T1 t_j_Net_In),(.d T8 t_j_Net_Layers),(.d T2 t_j_Kind),(.d T2 t_j_Batch),(.d T2 t_j_Rate_Step),(.d T2 t_j_Rate_Keep),(.d T2 t_j_Rate_Bound),(.d T11 t_j_Data),(.d T1 t_j_P),(.osl 1),(.osl 2),(.d T2 t_steps),(.d T2 t_loss_Hi),(.d T4 t_loss_Lo)]),(1,.arr 40 T2 t_s_P),(2,.arr 40 T2 t_s_M),(3,.arr 79 T5 z1.2.1),(4,.cells [(.d T2 z1.2.2.1),(.d T4 z1.2.2.2)])],5⟩)],?_,?_⟩
 ·have q := hz1
  clear hz1
  unfold f51_j1 at q
  obtain ⟨q4_20,hq4_20,q⟩ := bE q
  obtain ⟨q4_21,hq4_21,q⟩ := bE q
  refine EI (.take 0 (.take 1 (.take 2 (.take 3 (.take 4 (.take 5 (.take 6 (.take 7 (.take 8 (.take 9 (.take 10 (.take 11 (.take 12 (.take 13 (.take 14 (.take 15 (.take 16 (.take 17 (.take 18 (.take 19 (.alt 20 (.alt 21 (.take 22 (.take 23 (.take 24 (.take 25 (.alt 26 (.take 27 (.alt 28 (.take 29 .done) .done)) .done))))) (.alt 26 (.alt 21 (.take 22 (.take 23 (.take 24 (.take 25 (.take 27 (.alt 28 (.take 29 .done) .done)))))) .done) .done)) (.alt 26 (.alt 20 (.alt 21 (.take 22 (.take 23 (.take 24 (.take 25 (.take 27 (.alt 28 (.take 29 .done) .done)))))) .done) .done) .done)))))))))))))))))))))) (EI [] (EI [] (AI rfl (AI (AI TV ?_) ?_))))
  ·refine AI TV (OL (AI f94_in (cV (cQ C94 (((t_j_Net_In,t_j_Net_Layers),t_j_Kind,t_j_Batch,(t_j_Rate_Step,t_j_Rate_Keep,t_j_Rate_Bound),t_j_Data,t_j_P),q1_15.2) q4_20 [] false C94_holds hq4_20 rfl rfl (R3 (K0 (AI TV (OL (AI f38_in (cV (cQ C38 ((t_j_Net_In,t_j_Net_Layers),t_j_Kind,t_s_P,q4_20) q4_21 [] true C38_holds hq4_21 rfl rfl (R5 (AI (fun _=>rfl) (R2 (AI TV (AI TV (AI TV (OL ?_))))))))))))))))))
   cases sE q
   refine E4 [(0,some 0),(1,some 1),(2,some 2),(3,some 6),(4,some 4)] (R3 (AI (R3 TV) (R5 TV)))
  refine OL (AI f94_in (cV (cQ C94 (((t_j_Net_In,t_j_Net_Layers),t_j_Kind,t_j_Batch,(t_j_Rate_Step,t_j_Rate_Keep,t_j_Rate_Bound),t_j_Data,t_j_P),q1_15.2) q4_20 [] false C94_holds hq4_20 rfl rfl (R3 (K0 (AI (AI TV ?_) ?_))))))
  ·refine AI TV (OL (AI f38_in (cV (cQ C38 ((t_j_Net_In,t_j_Net_Layers),t_j_Kind,t_s_P,q4_20) q4_21 [] true C38_holds hq4_21 rfl rfl (R5 (AI (fun _=>rfl) (R2 (AI TV (AI TV (AI TV (OL ?_)))))))))))
   cases sE q
   refine E4 [(0,some 0),(1,some 1),(2,some 2),(3,some 6),(4,some 5)] (R3 (AI (R3 TV) (R5 TV)))
  refine OL (AI f38_in (cV (cQ C38 ((t_j_Net_In,t_j_Net_Layers),t_j_Kind,t_s_P,q4_20) q4_21 [] true C38_holds hq4_21 rfl rfl (R5 (AI (fun _=>rfl) (R2 (AI TV (AI TV (AI TV (AI TV (OL ?_)))))))))))
  cases sE q
  refine E4 [(0,some 0),(1,some 1),(2,some 2),(3,some 5),(4,some 6)] (R3 (AI (R3 TV) (R5 TV)))
 refine AI (OL (OL (cI q (fun q=>?_) (fun q=>?_)))) TV
 ·cases sE q
  refine OL (AI rfl (E4 [(0,some 0),(3,some 1),(4,some 2)] (R2 (AI TV (R3 TV)))))
 obtain ⟨z2,hz2,q⟩ := bE q
 refine OQ ⟨[(0,⟨[(0,P0 0 0),(4,.dat T2 z2.1),(6,P0 3 0),(7,P0 4 0)],[(0,.cells [(.d T1 t_j_Net_In),(.d T8 t_j_Net_Layers),(.d T2 t_j_Kind),(.d T2 t_j_Batch),(.d T2 t_j_Rate_Step),(.d T2 t_j_Rate_Keep),(.d T2 t_j_Rate_Bound),(.d T11 t_j_Data),(.d T1 t_j_P),(.osl 1),(.osl 2),(.d T2 t_steps),(.d T2 t_loss_Hi),(.d T4 t_loss_Lo)]),(1,.arr 40 T2 t_s_P),(2,.arr 40 T2 t_s_M),(3,.cells [(.d T2 z1.2.2.1),(.d T4 z1.2.2.2)]),(4,.cells [(.osl 5),(.osl 6)]),(5,.arr 40 T2 z2.2.1),(6,.arr 40 T2 z2.2.2)],7⟩)],?_,?_⟩
 ·have q := hz2
  clear hz2
  unfold f51_j2 at q
  obtain ⟨q7_12,hq7_12,q⟩ := bE q
  refine EI (.take 0 (.take 1 (.take 2 (.take 3 (.take 4 (.take 5 (.take 6 (.take 7 (.take 8 (.take 9 (.take 10 (.take 11 (.alt 12 (.take 13 (.take 14 (.take 15 (.alt 16 (.alt 17 (.take 18 .done) .done) .done)))) (.alt 16 (.alt 12 (.take 13 (.take 14 (.take 15 (.alt 17 (.take 18 .done) .done)))) .done) .done)))))))))))))) (EI [] (EI [] (AI rfl (AI (AI TV ?_) ?_))))
  ·refine AI TV (OL (AI f95_in (cV (cQ C95 ((t_s_P,t_s_M),z1.2.1,(List.length q1_15.2:Int),(t_j_Rate_Step,t_j_Rate_Keep,t_j_Rate_Bound)) q7_12 [] true C95_holds hq7_12 rfl rfl (R6 (AI (fun _=>rfl) (R2 (AI TV (AI TV (AI TV (OL ?_)))))))))))
   cases sE q
   refine E4 [(0,some 0),(1,some 1),(2,some 2),(3,some 4),(4,some 5),(5,some 6),(6,some 7)] (R2 (AI (R3 TV) (R7 TV)))
  refine OL (AI f95_in (cV (cQ C95 ((t_s_P,t_s_M),z1.2.1,(List.length q1_15.2:Int),(t_j_Rate_Step,t_j_Rate_Keep,t_j_Rate_Bound)) q7_12 [] true C95_holds hq7_12 rfl rfl (R6 (AI (fun _=>rfl) (R2 (AI TV (AI TV (AI TV (AI TV (OL ?_)))))))))))
  cases sE q
  refine E4 [(0,some 0),(1,some 1),(2,some 2),(3,some 4),(4,some 7),(5,some 5),(6,some 6)] (R2 (AI (R3 TV) (R7 TV)))
 refine AI (OL (OL (cI q (fun q=>?_) (fun q=>?_)))) TV
 ·cases sE q
  refine OL (AI rfl (E4 [(0,some 0),(3,some 1),(4,some 2)] (R2 (AI TV (R3 TV)))))
 refine OL (EI (.take 0 (.take 1 (.take 2 (.take 3 (.take 4 (.take 5 (.alt 6 (.take 7 (.take 8 (.alt 9 .done .done))) .done))))))) (EI [] (EI [] (AI rfl (AI TV (OL (AI TV (OL (OL (OL (OL ?_)))))))))))
 cases sE q
 refine AI rfl (E4 [(0,some 0),(3,some 5),(4,some 6)] (R2 (AI TV (R3 TV))))
theorem C51_holds : HP C51 51 := hH Tryz.f51 (by kernel_rfl) rfl (fun x y q=>C51_vc x.1 x.2.1 x.2.2.1 x.2.2.2.1 x.2.2.2.2.1 x.2.2.2.2.2.1 x.2.2.2.2.2.2.1 x.2.2.2.2.2.2.2.1 x.2.2.2.2.2.2.2.2.1 x.2.2.2.2.2.2.2.2.2.1 x.2.2.2.2.2.2.2.2.2.2.1 x.2.2.2.2.2.2.2.2.2.2.2.1 x.2.2.2.2.2.2.2.2.2.2.2.2.1 x.2.2.2.2.2.2.2.2.2.2.2.2.2 y q)
theorem f51_in : InP 51 := inP (by kernel_rfl)
def f52 (t_j_Net_In : LI) (t_j_Net_Layers : List (ByteArray×Int×Int)) (t_j_Kind:Int) (t_j_Batch:Int) (t_j_Rate_Step:Int) (t_j_Rate_Keep:Int) (t_j_Rate_Bound:Int) (t_j_Data : List (LI×LI×Int)) (t_j_P : LI) (t_s_P : LI) (t_s_M : LI) (t_steps:Int) (t_loss_Hi:Int) (t_loss_Lo:Int) : Option (LI×LI×LI×(List (ByteArray×Int×Int))×Int×Int×Int×Int×Int×(List (LI×LI×Int))×LI×Int×Int×Int×LI×LI) :=
 bindF (f96 t_s_P) fun q1_5 =>
 bindF (f96 t_s_M) fun q1_11 =>
 some (q1_5,q1_11,t_j_Net_In,t_j_Net_Layers,t_j_Kind,t_j_Batch,t_j_Rate_Step,t_j_Rate_Keep,t_j_Rate_Bound,t_j_Data,t_j_P,t_steps,t_loss_Hi,t_loss_Lo,t_s_P,t_s_M)
def C52 : Con where
 X := LI×(List (ByteArray×Int×Int))×Int×Int×Int×Int×Int×(List (LI×LI×Int))×LI×LI×LI×Int×Int×Int
 Y := LI×LI×LI×(List (ByteArray×Int×Int))×Int×Int×Int×Int×Int×(List (LI×LI×Int))×LI×Int×Int×Int×LI×LI
 e := 3
 args x := [P0 0 0]
 hin x := [(0,.cells [(.d T1 x.1),(.d T8 x.2.1),(.d T2 x.2.2.1),(.d T2 x.2.2.2.1),(.d T2 x.2.2.2.2.1),(.d T2 x.2.2.2.2.2.1),(.d T2 x.2.2.2.2.2.2.1),(.d T11 x.2.2.2.2.2.2.2.1),(.d T1 x.2.2.2.2.2.2.2.2.1),(.osl 1),(.osl 2),(.d T2 x.2.2.2.2.2.2.2.2.2.2.2.1),(.d T2 x.2.2.2.2.2.2.2.2.2.2.2.2.1),(.d T4 x.2.2.2.2.2.2.2.2.2.2.2.2.2)]),(1,.arr 40 T2 x.2.2.2.2.2.2.2.2.2.1),(2,.arr 40 T2 x.2.2.2.2.2.2.2.2.2.2.1)]
 F x := f52 x.1 x.2.1 x.2.2.1 x.2.2.2.1 x.2.2.2.2.1 x.2.2.2.2.2.1 x.2.2.2.2.2.2.1 x.2.2.2.2.2.2.2.1 x.2.2.2.2.2.2.2.2.1 x.2.2.2.2.2.2.2.2.2.1 x.2.2.2.2.2.2.2.2.2.2.1 x.2.2.2.2.2.2.2.2.2.2.2.1 x.2.2.2.2.2.2.2.2.2.2.2.2.1 x.2.2.2.2.2.2.2.2.2.2.2.2.2
 ret y := [.raw true [(.osl 3),(.osl 4)]]
 hout y := [(0,.cells [(.d T1 y.2.2.1),(.d T8 y.2.2.2.1),(.d T2 y.2.2.2.2.1),(.d T2 y.2.2.2.2.2.1),(.d T2 y.2.2.2.2.2.2.1),(.d T2 y.2.2.2.2.2.2.2.1),(.d T2 y.2.2.2.2.2.2.2.2.1),(.d T11 y.2.2.2.2.2.2.2.2.2.1),(.d T1 y.2.2.2.2.2.2.2.2.2.2.1),(.osl 1),(.osl 2),(.d T2 y.2.2.2.2.2.2.2.2.2.2.2.1),(.d T2 y.2.2.2.2.2.2.2.2.2.2.2.2.1),(.d T4 y.2.2.2.2.2.2.2.2.2.2.2.2.2.1)]),(1,.arr 40 T2 y.2.2.2.2.2.2.2.2.2.2.2.2.2.2.1),(2,.arr 40 T2 y.2.2.2.2.2.2.2.2.2.2.2.2.2.2.2),(3,.arr 40 T2 y.1),(4,.arr 40 T2 y.2.1)]
 nout := 5
theorem C52_vc (t_j_Net_In : LI) (t_j_Net_Layers : List (ByteArray×Int×Int)) (t_j_Kind:Int) (t_j_Batch:Int) (t_j_Rate_Step:Int) (t_j_Rate_Keep:Int) (t_j_Rate_Bound:Int) (t_j_Data : List (LI×LI×Int)) (t_j_P : LI) (t_s_P : LI) (t_s_M : LI) (t_steps:Int) (t_loss_Hi:Int) (t_loss_Lo:Int) (y : LI×LI×LI×(List (ByteArray×Int×Int))×Int×Int×Int×Int×Int×(List (LI×LI×Int))×LI×Int×Int×Int×LI×LI) (q : f52 t_j_Net_In t_j_Net_Layers t_j_Kind t_j_Batch t_j_Rate_Step t_j_Rate_Keep t_j_Rate_Bound t_j_Data t_j_P t_s_P t_s_M t_steps t_loss_Hi t_loss_Lo = some y) : VE Tryz.f52 3 C52 (t_j_Net_In,t_j_Net_Layers,t_j_Kind,t_j_Batch,t_j_Rate_Step,t_j_Rate_Keep,t_j_Rate_Bound,t_j_Data,t_j_P,t_s_P,t_s_M,t_steps,t_loss_Hi,t_loss_Lo) y := by
 unfold f52 at q
 refine OL (OL (EI (.take 0 (.take 1 (.take 2 (.take 3 (.take 4 (.take 6 (.take 7 (.take 8 (.take 9 (.take 10 (.alt 5 (.alt 11 (.take 12 (.alt 13 .done .done)) .done) .done))))))))))) (EI [] (EI [] (AI rfl (AI TV ?_))))))
 obtain ⟨q1_5,hq1_5,q⟩ := bE q
 refine OL (AI f96_in (cV (cQ C96 t_s_P q1_5 [] true C96_holds hq1_5 rfl rfl (AI rfl (AI (fun _=>rfl) (R2 (AI TV (AI TV (AI TV ?_)))))))))
 obtain ⟨q1_11,hq1_11,q⟩ := bE q
 refine OL (AI f96_in (cV (cQ C96 t_s_M q1_11 [] true C96_holds hq1_11 rfl rfl (AI rfl (AI (fun _=>rfl) (R2 (AI TV (AI TV (AI TV (OL ?_))))))))))
 cases sE q
 refine AI rfl (E4 [(0,some 0),(1,some 1),(2,some 2),(3,some 4),(4,some 5)] (AI rfl (AJ (R5 TV))))
theorem C52_holds : HP C52 52 := hH Tryz.f52 (by kernel_rfl) rfl (fun x y q=>C52_vc x.1 x.2.1 x.2.2.1 x.2.2.2.1 x.2.2.2.2.1 x.2.2.2.2.2.1 x.2.2.2.2.2.2.1 x.2.2.2.2.2.2.2.1 x.2.2.2.2.2.2.2.2.1 x.2.2.2.2.2.2.2.2.2.1 x.2.2.2.2.2.2.2.2.2.2.1 x.2.2.2.2.2.2.2.2.2.2.2.1 x.2.2.2.2.2.2.2.2.2.2.2.2.1 x.2.2.2.2.2.2.2.2.2.2.2.2.2 y q)
theorem f52_in : InP 52 := inP (by kernel_rfl)
def f46_j3 (k:Int) : Option Bool :=
 bif (decide (k < (0:Int))) then
 some true
 else
 some (decide (k > (10000:Int)))
def f46_j2 (k:Int) (r1a:Int) : Option (Sum Unit Int) :=
 bif (r1a != (0:Int)) then
 some (Sum.inr r1a)
 else
 bindF (f46_j3 k) fun z4 =>
 bif z4 then
 some (Sum.inr (1:Int))
 else
 some (Sum.inl ())
def f46_l4 (k:Int) (go : Unit → Option Unit) : Option Unit :=
 bif (decide ((0:Int) < k)) then
 none
 else
 some ()
def f46_j7 (k:Int) : Option Bool :=
 bif (decide (k < (0:Int))) then
 some true
 else
 some (decide (k > (10000:Int)))
def f46_j6 (k:Int) : Option (Sum Unit Int) :=
 bif ((0:Int) != (0:Int)) then
 some (Sum.inr (0:Int))
 else
 bindF (f46_j7 k) fun z8 =>
 bif z8 then
 some (Sum.inr (1:Int))
 else
 some (Sum.inl ())
def f46_l8 (k:Int) (go : (Int×LI×(List (ByteArray×Int×Int))×Int×Int×Int×Int×Int×(List (LI×LI×Int))×LI×Int×Int×Int×LI×LI) → Option (Sum Int (LI×(List (ByteArray×Int×Int))×Int×Int×Int×Int×Int×(List (LI×LI×Int))×LI×Int×Int×Int×LI×LI))) (v28:Int) (c1_0 : LI) (c1_1 : List (ByteArray×Int×Int)) (c1_2:Int) (c1_3:Int) (c1_4:Int) (c1_5:Int) (c1_6:Int) (c1_7 : List (LI×LI×Int)) (c1_8 : LI) (c1_11:Int) (c1_12:Int) (c1_13:Int) (l2 : LI) (l3 : LI) : Option (Sum Int (LI×(List (ByteArray×Int×Int))×Int×Int×Int×Int×Int×(List (LI×LI×Int))×LI×Int×Int×Int×LI×LI)) :=
 bif (decide (v28 < k)) then
 bindF (f51 c1_0 c1_1 c1_2 c1_3 c1_4 c1_5 c1_6 c1_7 c1_8 l2 l3 c1_11 c1_12 c1_13) fun r12 =>
 bif (r12.1 != (0:Int)) then
 some (Sum.inl r12.1)
 else
 go ((i64.wrap (v28 + (1:Int))),r12.2.1,r12.2.2.1,r12.2.2.2.1,r12.2.2.2.2.1,r12.2.2.2.2.2.1,r12.2.2.2.2.2.2.1,r12.2.2.2.2.2.2.2.1,r12.2.2.2.2.2.2.2.2.1,r12.2.2.2.2.2.2.2.2.2.1,r12.2.2.2.2.2.2.2.2.2.2.1,r12.2.2.2.2.2.2.2.2.2.2.2.1,r12.2.2.2.2.2.2.2.2.2.2.2.2.1,r12.2.2.2.2.2.2.2.2.2.2.2.2.2.1,r12.2.2.2.2.2.2.2.2.2.2.2.2.2.2)
 else
 some (Sum.inr (c1_0,c1_1,c1_2,c1_3,c1_4,c1_5,c1_6,c1_7,c1_8,c1_11,c1_12,c1_13,l2,l3))
def f46 (j : (LI×(List (ByteArray×Int×Int)))×Int×Int×(Int×Int×Int)×(List (LI×LI×Int))×LI) (k:Int) : Option (Int×LI×LI) :=
 bindF (f45 ((j.1.1,j.1.2),j.2.1,j.2.2.1,(j.2.2.2.1.1,j.2.2.2.1.2.1,j.2.2.2.1.2.2),j.2.2.2.2.1,j.2.2.2.2.2)) fun r1 =>
 sumF r1 (fun r1a =>
 bindF (f46_j2 k r1a) fun z3 =>
 sumF z3 (fun z3a =>
 bindF (loopF (fun go x=>f46_l4 k go) fuelN ()) fun z5 =>
 none) (fun z3b =>
 some (z3b,[],[]))) (fun r1b =>
 bindF (f46_j6 k) fun z7 =>
 sumF z7 (fun z7a =>
 bindF (loopF (fun go x=>f46_l8 k go x.1 x.2.1 x.2.2.1 x.2.2.2.1 x.2.2.2.2.1 x.2.2.2.2.2.1 x.2.2.2.2.2.2.1 x.2.2.2.2.2.2.2.1 x.2.2.2.2.2.2.2.2.1 x.2.2.2.2.2.2.2.2.2.1 x.2.2.2.2.2.2.2.2.2.2.1 x.2.2.2.2.2.2.2.2.2.2.2.1 x.2.2.2.2.2.2.2.2.2.2.2.2.1 x.2.2.2.2.2.2.2.2.2.2.2.2.2.1 x.2.2.2.2.2.2.2.2.2.2.2.2.2.2) fuelN ((0:Int),r1b.1,r1b.2.1,r1b.2.2.1,r1b.2.2.2.1,r1b.2.2.2.2.1,r1b.2.2.2.2.2.1,r1b.2.2.2.2.2.2.1,r1b.2.2.2.2.2.2.2.1,r1b.2.2.2.2.2.2.2.2.1,(0:Int),(0:Int),(0:Int),r1b.2.2.2.2.2.2.2.2.2.1,r1b.2.2.2.2.2.2.2.2.2.2)) fun z11 =>
 sumF z11 (fun z11a =>
 some (z11a,[],[])) (fun z11b =>
 bindF (f52 z11b.1 z11b.2.1 z11b.2.2.1 z11b.2.2.2.1 z11b.2.2.2.2.1 z11b.2.2.2.2.2.1 z11b.2.2.2.2.2.2.1 z11b.2.2.2.2.2.2.2.1 z11b.2.2.2.2.2.2.2.2.1 z11b.2.2.2.2.2.2.2.2.2.2.2.2.1 z11b.2.2.2.2.2.2.2.2.2.2.2.2.2 z11b.2.2.2.2.2.2.2.2.2.1 z11b.2.2.2.2.2.2.2.2.2.2.1 z11b.2.2.2.2.2.2.2.2.2.2.2.1) fun r13 =>
 some ((0:Int),r13.1,r13.2.1))) (fun z7b =>
 some (z7b,[],[])))
def C46 : Con where
 X := ((LI×(List (ByteArray×Int×Int)))×Int×Int×(Int×Int×Int)×(List (LI×LI×Int))×LI)×Int
 Y := Int×LI×LI
 e := 0
 args x := [.dat T12 x.1,.dat T2 x.2]
 hin x := []
 F x := f46 x.1 x.2
 ret y := [.raw true [(.osl 0),(.osl 1)],.dat T2 y.1]
 hout y := [(0,.arr 40 T2 y.2.1),(1,.arr 40 T2 y.2.2)]
 nout := 2
theorem C46_vc (j : (LI×(List (ByteArray×Int×Int)))×Int×Int×(Int×Int×Int)×(List (LI×LI×Int))×LI) (k:Int) (y : Int×LI×LI) (q : f46 j k = some y) : VC Tryz.f46 C46 (j,k) y := by
 unfold f46 at q
 refine OL (OL ?_)
 obtain ⟨r1,hr1,q⟩ := bE q
 rcases r1 with r1a | r1b
 ·dsimp only [sumF] at q
  refine OL (AI f45_in (cV (cQ C45 ((j.1.1,j.1.2),j.2.1,j.2.2.1,(j.2.2.2.1.1,j.2.2.2.1.2.1,j.2.2.2.1.2.2),j.2.2.2.2.1,j.2.2.2.2.2) (Sum.inl r1a) [] false C45_holds hr1 rfl rfl (R2 (K0 ?_)))))
  obtain ⟨z3,hz3,q⟩ := bE q
  refine OQ ⟨Sum.elim (fun z3a=>[(0,⟨[(1,.dat T2 k),(4,P0 0 0),(6,.raw false [(.c (.pointer none))])],[(0,.cells [N0,N0])],1⟩)]) (fun z3b=>[(1,⟨[(4,P0 0 0),(5,.dat T2 z3b)],[(0,.cells [N0,N0])],1⟩)]) z3,?_,?_⟩
  ·have q := hz3
   clear hz3
   unfold f46_j2 at q
   refine OL (cI q (fun q=>?_) (fun q=>?_))
   ·refine OL (OL ?_)
    cases sE q
    refine E4 [(0,some 1)] (R2 (AJ (AI rfl TV)))
   obtain ⟨z4,hz4,q⟩ := bE q
   refine OQ ⟨[(0,⟨[(1,.dat T2 k),(4,P0 0 0),(6,.raw false [(.c (.pointer none))]),(19,.dat .bool z4)],[(0,.cells [N0,N0])],1⟩)],?_,?_⟩
   ·have q := hz4
    clear hz4
    unfold f46_j3 at q
    refine cN q (fun q=>?_) (fun q=>?_)
    ·refine gY (cF ?_)
     cases sE q
     refine E4 [(0,some 1)] (R3 (AI (R2 TV) (AI rfl TV)))
    refine gN (cT ?_)
    cases sE q
    refine E4 [(0,some 1)] (R3 (AI (R2 TV) (AI rfl TV)))
   refine AI (cI q (fun q=>?_) (fun q=>?_)) TV
   ·refine OL (OL ?_)
    cases sE q
    refine E4 [(0,some 0)] (R2 (AJ (AI rfl TV)))
   cases sE q
   refine E4 [(0,some 0)] (R2 (AI (R2 TV) (AI rfl TV)))
  rcases z3 with z3a | z3b
  ·dsimp only [sumF] at q
   refine AI (OL (OL ?_)) TV
   obtain ⟨z5,hz5,q⟩ := bE q
   refine lI Unit Unit (fun x=>⟨[(4,P0 0 0),(6,.raw false [(.c (.pointer none))]),(27,.dat T2 k),(28,D0 0)],[(0,.cells [N0,N0])],1⟩) (fun z=>[(3,⟨[(4,P0 0 0),(6,.raw false [(.c (.pointer none))])],[(0,.cells [N0,N0])],1⟩)]) (loopF (fun go x=>f46_l4 k go)) fuelN () z5 (AI hz5 (AI (E4 [(0,some 0)] (R3 (AI (R2 TV) (AI rfl TV)))) (AI (fun _ _ h=>lZ h) (AI (fun m=>fun x z q=>?_) ?_))))
   ·have q : f46_l4 k (loopF (fun go x=>f46_l4 k go) m) = some z := q
    unfold f46_l4 at q
    refine OL (OL (cI q (fun q=>?_) (fun q=>?_)))
    ·refine OL (OL ?_)
     exact nomatch q
    cases sE q
    refine E4 [(0,some 0)] (AI rfl (AI (R2 TV) (AI rfl TV)))
   refine AI (OL ?_) TV
   exact nomatch q
  dsimp only [sumF] at q
  refine AI ?_ TV
  cases sE q
  refine AI rfl (E4 [(0,none),(1,none)] (R2 (AJ (R2 TV))))
 dsimp only [sumF] at q
 refine OL (AI f45_in (cV (cQ C45 ((j.1.1,j.1.2),j.2.1,j.2.2.1,(j.2.2.2.1.1,j.2.2.2.1.2.1,j.2.2.2.1.2.2),j.2.2.2.2.1,j.2.2.2.2.2) (Sum.inr r1b) [] false C45_holds hr1 rfl rfl (R2 (K0 ?_)))))
 obtain ⟨z7,hz7,q⟩ := bE q
 refine OQ ⟨Sum.elim (fun z7a=>[(0,⟨[(1,.dat T2 k),(4,P0 0 0),(6,P0 1 0)],[(0,.cells [N0,N0]),(1,.cells [(.d T1 r1b.1),(.d T8 r1b.2.1),(.d T2 r1b.2.2.1),(.d T2 r1b.2.2.2.1),(.d T2 r1b.2.2.2.2.1),(.d T2 r1b.2.2.2.2.2.1),(.d T2 r1b.2.2.2.2.2.2.1),(.d T11 r1b.2.2.2.2.2.2.2.1),(.d T1 r1b.2.2.2.2.2.2.2.2.1),(.osl 2),(.osl 3),(.d T2 (0:Int)),(.d T2 (0:Int)),(.d T4 (0:Int))]),(2,.arr 40 T2 r1b.2.2.2.2.2.2.2.2.2.1),(3,.arr 40 T2 r1b.2.2.2.2.2.2.2.2.2.2)],4⟩)]) (fun z7b=>[(1,⟨[(4,P0 0 0),(5,.dat T2 z7b)],[(0,.cells [N0,N0])],1⟩)]) z7,?_,?_⟩
 ·have q := hz7
  clear hz7
  unfold f46_j6 at q
  refine OL (cI q (fun q=>?_) (fun q=>?_))
  ·refine OL (OL ?_)
   cases sE q
   refine E4 [(0,some 1)] (R2 (AJ (AI rfl TV)))
  obtain ⟨z8,hz8,q⟩ := bE q
  refine OQ ⟨[(0,⟨[(1,.dat T2 k),(4,P0 0 0),(6,P0 1 0),(19,.dat .bool z8)],[(0,.cells [N0,N0]),(1,.cells [(.d T1 r1b.1),(.d T8 r1b.2.1),(.d T2 r1b.2.2.1),(.d T2 r1b.2.2.2.1),(.d T2 r1b.2.2.2.2.1),(.d T2 r1b.2.2.2.2.2.1),(.d T2 r1b.2.2.2.2.2.2.1),(.d T11 r1b.2.2.2.2.2.2.2.1),(.d T1 r1b.2.2.2.2.2.2.2.2.1),(.osl 2),(.osl 3),(.d T2 (0:Int)),(.d T2 (0:Int)),(.d T4 (0:Int))]),(2,.arr 40 T2 r1b.2.2.2.2.2.2.2.2.2.1),(3,.arr 40 T2 r1b.2.2.2.2.2.2.2.2.2.2)],4⟩)],?_,?_⟩
  ·have q := hz8
   clear hz8
   unfold f46_j7 at q
   refine cN q (fun q=>?_) (fun q=>?_)
   ·refine gY (cF ?_)
    cases sE q
    refine E4 [(0,some 1),(1,some 2),(2,some 3),(3,some 4)] (R3 (AI (R2 TV) (R4 TV)))
   refine gN (cT ?_)
   cases sE q
   refine E4 [(0,some 1),(1,some 2),(2,some 3),(3,some 4)] (R3 (AI (R2 TV) (R4 TV)))
  refine AI (cI q (fun q=>?_) (fun q=>?_)) TV
  ·refine OL (OL ?_)
   cases sE q
   refine E4 [(0,some 0)] (R2 (AJ (AI rfl TV)))
  cases sE q
  refine E4 I4 (R2 (AI (R2 TV) (R4 TV)))
 rcases z7 with z7a | z7b
 ·dsimp only [sumF] at q
  refine AI (OL (OL ?_)) TV
  obtain ⟨z11,hz11,q⟩ := bE q
  refine lI (Int×LI×(List (ByteArray×Int×Int))×Int×Int×Int×Int×Int×(List (LI×LI×Int))×LI×Int×Int×Int×LI×LI) (Sum Int (LI×(List (ByteArray×Int×Int))×Int×Int×Int×Int×Int×(List (LI×LI×Int))×LI×Int×Int×Int×LI×LI)) (fun x=>⟨[(4,P0 0 0),(6,P0 1 0),(27,.dat T2 k),(28,.dat T2 x.1)],[(0,.cells [N0,N0]),(1,.cells [(.d T1 x.2.1),(.d T8 x.2.2.1),(.d T2 x.2.2.2.1),(.d T2 x.2.2.2.2.1),(.d T2 x.2.2.2.2.2.1),(.d T2 x.2.2.2.2.2.2.1),(.d T2 x.2.2.2.2.2.2.2.1),(.d T11 x.2.2.2.2.2.2.2.2.1),(.d T1 x.2.2.2.2.2.2.2.2.2.1),(.osl 2),(.osl 3),(.d T2 x.2.2.2.2.2.2.2.2.2.2.1),(.d T2 x.2.2.2.2.2.2.2.2.2.2.2.1),(.d T4 x.2.2.2.2.2.2.2.2.2.2.2.2.1)]),(2,.arr 40 T2 x.2.2.2.2.2.2.2.2.2.2.2.2.2.1),(3,.arr 40 T2 x.2.2.2.2.2.2.2.2.2.2.2.2.2.2)],4⟩) (fun z=>Sum.elim (fun za=>[(1,⟨[(4,P0 0 0),(5,.dat T2 za)],[(0,.cells [N0,N0])],1⟩)]) (fun zb=>[(3,⟨[(4,P0 0 0),(6,P0 1 0)],[(0,.cells [N0,N0]),(1,.cells [(.d T1 zb.1),(.d T8 zb.2.1),(.d T2 zb.2.2.1),(.d T2 zb.2.2.2.1),(.d T2 zb.2.2.2.2.1),(.d T2 zb.2.2.2.2.2.1),(.d T2 zb.2.2.2.2.2.2.1),(.d T11 zb.2.2.2.2.2.2.2.1),(.d T1 zb.2.2.2.2.2.2.2.2.1),(.osl 2),(.osl 3),(.d T2 zb.2.2.2.2.2.2.2.2.2.1),(.d T2 zb.2.2.2.2.2.2.2.2.2.2.1),(.d T4 zb.2.2.2.2.2.2.2.2.2.2.2.1)]),(2,.arr 40 T2 zb.2.2.2.2.2.2.2.2.2.2.2.2.1),(3,.arr 40 T2 zb.2.2.2.2.2.2.2.2.2.2.2.2.2)],4⟩)]) z) (loopF (fun go x=>f46_l8 k go x.1 x.2.1 x.2.2.1 x.2.2.2.1 x.2.2.2.2.1 x.2.2.2.2.2.1 x.2.2.2.2.2.2.1 x.2.2.2.2.2.2.2.1 x.2.2.2.2.2.2.2.2.1 x.2.2.2.2.2.2.2.2.2.1 x.2.2.2.2.2.2.2.2.2.2.1 x.2.2.2.2.2.2.2.2.2.2.2.1 x.2.2.2.2.2.2.2.2.2.2.2.2.1 x.2.2.2.2.2.2.2.2.2.2.2.2.2.1 x.2.2.2.2.2.2.2.2.2.2.2.2.2.2)) fuelN ((0:Int),r1b.1,r1b.2.1,r1b.2.2.1,r1b.2.2.2.1,r1b.2.2.2.2.1,r1b.2.2.2.2.2.1,r1b.2.2.2.2.2.2.1,r1b.2.2.2.2.2.2.2.1,r1b.2.2.2.2.2.2.2.2.1,(0:Int),(0:Int),(0:Int),r1b.2.2.2.2.2.2.2.2.2.1,r1b.2.2.2.2.2.2.2.2.2.2) z11 (AI hz11 (AI (E4 I4 (R3 (AI (R2 TV) (R4 TV)))) (AI (fun _ _ h=>lZ h) (AI (fun m=>curI (fun v28=>curI (fun c1_0=>curI (fun c1_1=>curI (fun c1_2=>curI (fun c1_3=>curI (fun c1_4=>curI (fun c1_5=>curI (fun c1_6=>curI (fun c1_7=>curI (fun c1_8=>curI (fun c1_11=>curI (fun c1_12=>curI (fun c1_13=>curI (fun l2=>fun l3 z q=>?_))))))))))))))) ?_))))
  ·have q : f46_l8 k (loopF (fun go x=>f46_l8 k go x.1 x.2.1 x.2.2.1 x.2.2.2.1 x.2.2.2.2.1 x.2.2.2.2.2.1 x.2.2.2.2.2.2.1 x.2.2.2.2.2.2.2.1 x.2.2.2.2.2.2.2.2.1 x.2.2.2.2.2.2.2.2.2.1 x.2.2.2.2.2.2.2.2.2.2.1 x.2.2.2.2.2.2.2.2.2.2.2.1 x.2.2.2.2.2.2.2.2.2.2.2.2.1 x.2.2.2.2.2.2.2.2.2.2.2.2.2.1 x.2.2.2.2.2.2.2.2.2.2.2.2.2.2) m) v28 c1_0 c1_1 c1_2 c1_3 c1_4 c1_5 c1_6 c1_7 c1_8 c1_11 c1_12 c1_13 l2 l3 = some z := q
   unfold f46_l8 at q
   refine OL (OL (cI q (fun q=>?_) (fun q=>?_)))
   ·refine OL (OL ?_)
    obtain ⟨r12,hr12,q⟩ := bE q
    refine OL (AI f51_in (cV (cQ C51 (c1_0,c1_1,c1_2,c1_3,c1_4,c1_5,c1_6,c1_7,c1_8,l2,l3,c1_11,c1_12,c1_13) r12 [(0,some 1),(1,some 2),(2,some 3)] false C51_holds hr12 rfl rfl (AI NH (R2 (AJ (AI (R3 TV) (OL (cI q (fun q=>?_) (fun q=>?_))))))))))
    ·refine OL (OL ?_)
     cases sE q
     refine E4 [(0,some 0)] (R2 (AJ (AI rfl TV)))
    refine EI ((i64.wrap (v28 + (1:Int))),r12.2.1,r12.2.2.1,r12.2.2.2.1,r12.2.2.2.2.1,r12.2.2.2.2.2.1,r12.2.2.2.2.2.2.1,r12.2.2.2.2.2.2.2.1,r12.2.2.2.2.2.2.2.2.1,r12.2.2.2.2.2.2.2.2.2.1,r12.2.2.2.2.2.2.2.2.2.2.1,r12.2.2.2.2.2.2.2.2.2.2.2.1,r12.2.2.2.2.2.2.2.2.2.2.2.2.1,r12.2.2.2.2.2.2.2.2.2.2.2.2.2.1,r12.2.2.2.2.2.2.2.2.2.2.2.2.2.2) (AI q (E4 [(0,some 0),(1,some 1),(2,some 7),(3,some 8)] (R3 (AI (R2 TV) (R4 TV)))))
   cases sE q
   refine E4 I4 (AI rfl (AI (R2 TV) (R4 TV)))
  rcases z11 with z11a | z11b
  ·dsimp only [sumF] at q
   refine AI ?_ TV
   cases sE q
   refine AI rfl (E4 [(0,none),(1,none)] (R2 (AJ (R2 TV))))
  dsimp only [sumF] at q
  refine AI (OL ?_) TV
  obtain ⟨r13,hr13,q⟩ := bE q
  refine OL (AI f52_in (cV (cQ C52 (z11b.1,z11b.2.1,z11b.2.2.1,z11b.2.2.2.1,z11b.2.2.2.2.1,z11b.2.2.2.2.2.1,z11b.2.2.2.2.2.2.1,z11b.2.2.2.2.2.2.2.1,z11b.2.2.2.2.2.2.2.2.1,z11b.2.2.2.2.2.2.2.2.2.2.2.2.1,z11b.2.2.2.2.2.2.2.2.2.2.2.2.2,z11b.2.2.2.2.2.2.2.2.2.1,z11b.2.2.2.2.2.2.2.2.2.2.1,z11b.2.2.2.2.2.2.2.2.2.2.2.1) r13 [(0,some 1),(1,some 2),(2,some 3)] false C52_holds hr13 rfl rfl (AI NH (R2 (AJ (AI (R3 TV) (OL ?_))))))))
  cases sE q
  refine AI rfl (E4 [(0,some 7),(1,some 8)] (R2 (AJ (R2 TV))))
 dsimp only [sumF] at q
 refine AI ?_ TV
 cases sE q
 refine AI rfl (E4 [(0,none),(1,none)] (R2 (AJ (R2 TV))))
theorem C46_holds : HP C46 46 := hH Tryz.f46 (by kernel_rfl) rfl (fun x y q=>C46_vc x.1 x.2 y q)
theorem f46_in : InP 46 := inP (by kernel_rfl)
def f54 (t_j_Net_In : LI) (t_j_Net_Layers : List (ByteArray×Int×Int)) (t_j_Kind:Int) (t_j_Batch:Int) (t_j_Rate_Step:Int) (t_j_Rate_Keep:Int) (t_j_Rate_Bound:Int) (t_j_Data : List (LI×LI×Int)) (t_j_P : LI) (t_s_P : LI) (t_s_M : LI) (t_steps:Int) (t_loss_Hi:Int) (t_loss_Lo:Int) : Option (Int×LI×(List (ByteArray×Int×Int))×Int×Int×Int×Int×Int×(List (LI×LI×Int))×LI×Int×Int×Int×LI×LI) :=
 some (t_steps,t_j_Net_In,t_j_Net_Layers,t_j_Kind,t_j_Batch,t_j_Rate_Step,t_j_Rate_Keep,t_j_Rate_Bound,t_j_Data,t_j_P,t_steps,t_loss_Hi,t_loss_Lo,t_s_P,t_s_M)
def C54 : Con where
 X := LI×(List (ByteArray×Int×Int))×Int×Int×Int×Int×Int×(List (LI×LI×Int))×LI×LI×LI×Int×Int×Int
 Y := Int×LI×(List (ByteArray×Int×Int))×Int×Int×Int×Int×Int×(List (LI×LI×Int))×LI×Int×Int×Int×LI×LI
 e := 3
 args x := [P0 0 0]
 hin x := [(0,.cells [(.d T1 x.1),(.d T8 x.2.1),(.d T2 x.2.2.1),(.d T2 x.2.2.2.1),(.d T2 x.2.2.2.2.1),(.d T2 x.2.2.2.2.2.1),(.d T2 x.2.2.2.2.2.2.1),(.d T11 x.2.2.2.2.2.2.2.1),(.d T1 x.2.2.2.2.2.2.2.2.1),(.osl 1),(.osl 2),(.d T2 x.2.2.2.2.2.2.2.2.2.2.2.1),(.d T2 x.2.2.2.2.2.2.2.2.2.2.2.2.1),(.d T4 x.2.2.2.2.2.2.2.2.2.2.2.2.2)]),(1,.arr 40 T2 x.2.2.2.2.2.2.2.2.2.1),(2,.arr 40 T2 x.2.2.2.2.2.2.2.2.2.2.1)]
 F x := f54 x.1 x.2.1 x.2.2.1 x.2.2.2.1 x.2.2.2.2.1 x.2.2.2.2.2.1 x.2.2.2.2.2.2.1 x.2.2.2.2.2.2.2.1 x.2.2.2.2.2.2.2.2.1 x.2.2.2.2.2.2.2.2.2.1 x.2.2.2.2.2.2.2.2.2.2.1 x.2.2.2.2.2.2.2.2.2.2.2.1 x.2.2.2.2.2.2.2.2.2.2.2.2.1 x.2.2.2.2.2.2.2.2.2.2.2.2.2
 ret y := [.dat T2 y.1]
 hout y := [(0,.cells [(.d T1 y.2.1),(.d T8 y.2.2.1),(.d T2 y.2.2.2.1),(.d T2 y.2.2.2.2.1),(.d T2 y.2.2.2.2.2.1),(.d T2 y.2.2.2.2.2.2.1),(.d T2 y.2.2.2.2.2.2.2.1),(.d T11 y.2.2.2.2.2.2.2.2.1),(.d T1 y.2.2.2.2.2.2.2.2.2.1),(.osl 1),(.osl 2),(.d T2 y.2.2.2.2.2.2.2.2.2.2.1),(.d T2 y.2.2.2.2.2.2.2.2.2.2.2.1),(.d T4 y.2.2.2.2.2.2.2.2.2.2.2.2.1)]),(1,.arr 40 T2 y.2.2.2.2.2.2.2.2.2.2.2.2.2.1),(2,.arr 40 T2 y.2.2.2.2.2.2.2.2.2.2.2.2.2.2)]
 nout := 3
theorem C54_vc (t_j_Net_In : LI) (t_j_Net_Layers : List (ByteArray×Int×Int)) (t_j_Kind:Int) (t_j_Batch:Int) (t_j_Rate_Step:Int) (t_j_Rate_Keep:Int) (t_j_Rate_Bound:Int) (t_j_Data : List (LI×LI×Int)) (t_j_P : LI) (t_s_P : LI) (t_s_M : LI) (t_steps:Int) (t_loss_Hi:Int) (t_loss_Lo:Int) (y : Int×LI×(List (ByteArray×Int×Int))×Int×Int×Int×Int×Int×(List (LI×LI×Int))×LI×Int×Int×Int×LI×LI) (q : f54 t_j_Net_In t_j_Net_Layers t_j_Kind t_j_Batch t_j_Rate_Step t_j_Rate_Keep t_j_Rate_Bound t_j_Data t_j_P t_s_P t_s_M t_steps t_loss_Hi t_loss_Lo = some y) : VE Tryz.f54 3 C54 (t_j_Net_In,t_j_Net_Layers,t_j_Kind,t_j_Batch,t_j_Rate_Step,t_j_Rate_Keep,t_j_Rate_Bound,t_j_Data,t_j_P,t_s_P,t_s_M,t_steps,t_loss_Hi,t_loss_Lo) y := by
 unfold f54 at q
 refine OL (OL ?_)
 cases sE q
 refine AI rfl (E4 I3 (R2 (AI TV (R3 TV))))
theorem C54_holds : HP C54 54 := hH Tryz.f54 (by kernel_rfl) rfl (fun x y q=>C54_vc x.1 x.2.1 x.2.2.1 x.2.2.2.1 x.2.2.2.2.1 x.2.2.2.2.2.1 x.2.2.2.2.2.2.1 x.2.2.2.2.2.2.2.1 x.2.2.2.2.2.2.2.2.1 x.2.2.2.2.2.2.2.2.2.1 x.2.2.2.2.2.2.2.2.2.2.1 x.2.2.2.2.2.2.2.2.2.2.2.1 x.2.2.2.2.2.2.2.2.2.2.2.2.1 x.2.2.2.2.2.2.2.2.2.2.2.2.2 y q)
theorem f54_in : InP 54 := inP (by kernel_rfl)
def f92_l1 (n : LI×(List (ByteArray×Int×Int))) (go : (Int×(List (ByteArray×Int×Int))) → Option (List (ByteArray×Int×Int))) (i:Int) (l3 : List (ByteArray×Int×Int)) : Option (List (ByteArray×Int×Int)) :=
 bif (decide (i < (List.length n.2:Int))) then
 guardF (0 ≤ i ∧ i < (List.length n.2:Int)) <|
 guardF (0 ≤ i ∧ i < (List.length n.2:Int)) <|
 guardF (0 ≤ i ∧ i < (List.length n.2:Int)) <|
 guardF ((List.length l3 + List.length ([((rd (Ty.z T6) n.2 i).1,((rd (Ty.z T6) n.2 i).2).1,((rd (Ty.z T6) n.2 i).2).2)])) * 32 ≤ 140737488355328) <|
 go ((i64.wrap (i + (1:Int))),(l3 ++ ([((rd (Ty.z T6) n.2 i).1,((rd (Ty.z T6) n.2 i).2).1,((rd (Ty.z T6) n.2 i).2).2)])))
 else
 some l3
def f92 (n : LI×(List (ByteArray×Int×Int))) : Option (LI×(List (ByteArray×Int×Int))) :=
 bindF (loopF (fun go x=>f92_l1 n go x.1 x.2) fuelN ((0:Int),[])) fun z1 =>
 some (n.1,z1)
def C92 : Con where
 X := LI×(List (ByteArray×Int×Int))
 Y := LI×(List (ByteArray×Int×Int))
 e := 0
 args x := [.dat T7 x]
 hin x := []
 F x := f92 x
 ret y := [.raw true [(.d T1 y.1),(.osl 0)]]
 hout y := [(0,.arr 158 T6 y.2)]
 nout := 1
theorem C92_vc (n : LI×(List (ByteArray×Int×Int))) (y : LI×(List (ByteArray×Int×Int))) (q : f92 n = some y) : VC Tryz.f92 C92 n y := by
 unfold f92 at q
 refine OL (OL (OL (OL (OL ?_))))
 obtain ⟨z1,hz1,q⟩ := bE q
 refine lI (Int×(List (ByteArray×Int×Int))) (List (ByteArray×Int×Int)) (fun x=>⟨[(1,P0 0 0),(2,P0 1 0),(3,P0 2 0),(4,.dat T2 x.1)],[(0,.cells [(.d T1 n.1),(.d T8 n.2)]),(1,.cells [N0,N0]),(2,.cells [(.d T1 n.1),(.osl 3)]),(3,.arr 158 T6 x.2)],4⟩) (fun z=>[(2,⟨[(2,P0 0 0),(3,P0 1 0)],[(0,.cells [N0,N0]),(1,.cells [(.d T1 n.1),(.osl 2)]),(2,.arr 158 T6 z)],3⟩)]) (loopF (fun go x=>f92_l1 n go x.1 x.2)) fuelN ((0:Int),[]) z1 (AI hz1 (AI (E4 [(0,some 0),(1,some 1),(2,some 2),(3,none)] (R2 (AI (R3 TV) (R4 TV)))) (AI (fun _ _ h=>lZ h) (AI (fun m=>curI (fun i=>fun l3 z q=>?_)) ?_))))
 ·have q : f92_l1 n (loopF (fun go x=>f92_l1 n go x.1 x.2) m) i l3 = some z := q
  unfold f92_l1 at q
  refine OL (OL (cI q (fun q=>?_) (fun q=>?_)))
  ·refine OL (EI (.take 0 (.take 1 (.take 2 (.take 3 (.take 4 (.take 5 (.take 6 (.take 7 (.take 8 (.take 9 (.take 10 (.take 11 (.take 12 (.take 13 (.take 14 (.take 15 (.take 16 (.take 17 (.take 18 (.take 19 (.take 20 (.alt 21 (.alt 22 (.take 23 (.alt 24 .done .done)) .done) .done)))))))))))))))))))))) (EI [(24,[2])] (EI [] (AI rfl (gI q (fun q=>?_))))))
   refine gI q (fun q=>?_)
   refine gI q (fun q=>?_)
   refine AI TV (OL (AI TV (OL (gI q (fun q=>?_)))))
   refine AI TV (OL (EI ((i64.wrap (i + (1:Int))),(l3 ++ ([((rd (Ty.z T6) n.2 i).1,((rd (Ty.z T6) n.2 i).2).1,((rd (Ty.z T6) n.2 i).2).2)]))) (AI q (E4 [(0,some 0),(1,some 1),(2,some 2),(3,some 5)] (R2 (AI (R3 TV) (R4 TV)))))))
  cases sE q
  refine E4 [(0,some 1),(1,some 2),(2,some 3)] (AI rfl (AI (R2 TV) (R3 TV)))
 refine AI (OL (OL ?_)) TV
 cases sE q
 refine AI rfl (E4 [(0,some 2)] (AI rfl (AJ (AI rfl TV))))
theorem C92_holds : HP C92 92 := hH Tryz.f92 (by kernel_rfl) rfl (fun x y q=>C92_vc x y q)
theorem f92_in : InP 92 := inP (by kernel_rfl)
def f50_j1 (j : (LI×(List (ByteArray×Int×Int)))×Int×Int×(Int×Int×Int)×(List (LI×LI×Int))×LI) : Option (LI×(List (ByteArray×Int×Int))) :=
 bindF (f92 (j.1.1,j.1.2)) fun q1_2 =>
 some (q1_2.1,q1_2.2)
def f50_l2 (j : (LI×(List (ByteArray×Int×Int)))×Int×Int×(Int×Int×Int)×(List (LI×LI×Int))×LI) (go : (Int×(List (LI×LI×Int))) → Option (List (LI×LI×Int))) (i:Int) (l4 : List (LI×LI×Int)) : Option (List (LI×LI×Int)) :=
 bif (decide (i < (List.length j.2.2.2.2.1:Int))) then
 guardF (0 ≤ i ∧ i < (List.length j.2.2.2.2.1:Int)) <|
 guardF (0 ≤ i ∧ i < (List.length j.2.2.2.2.1:Int)) <|
 guardF (0 ≤ i ∧ i < (List.length j.2.2.2.2.1:Int)) <|
 guardF ((List.length l4 + List.length ([((rd (Ty.z T10) j.2.2.2.2.1 i).1,((rd (Ty.z T10) j.2.2.2.2.1 i).2).1,((rd (Ty.z T10) j.2.2.2.2.1 i).2).2)])) * 56 ≤ 140737488355328) <|
 go ((i64.wrap (i + (1:Int))),(l4 ++ ([((rd (Ty.z T10) j.2.2.2.2.1 i).1,((rd (Ty.z T10) j.2.2.2.2.1 i).2).1,((rd (Ty.z T10) j.2.2.2.2.1 i).2).2)])))
 else
 some l4
def f50 (j : (LI×(List (ByteArray×Int×Int)))×Int×Int×(Int×Int×Int)×(List (LI×LI×Int))×LI) : Option (LI×Int×Int×Int×Int×Int×LI×(List (ByteArray×Int×Int))×(List (LI×LI×Int))) :=
 bindF (f50_j1 j) fun z1 =>
 bindF (loopF (fun go x=>f50_l2 j go x.1 x.2) fuelN ((0:Int),[])) fun z2 =>
 some (z1.1,j.2.1,j.2.2.1,j.2.2.2.1.1,j.2.2.2.1.2.1,j.2.2.2.1.2.2,j.2.2.2.2.2,z1.2,z2)
def C50 : Con where
 X := (LI×(List (ByteArray×Int×Int)))×Int×Int×(Int×Int×Int)×(List (LI×LI×Int))×LI
 Y := LI×Int×Int×Int×Int×Int×LI×(List (ByteArray×Int×Int))×(List (LI×LI×Int))
 e := 0
 args x := [.dat T12 x]
 hin x := []
 F x := f50 x
 ret y := [.raw true [(.d T1 y.1),(.osl 0),(.d T2 y.2.1),(.d T2 y.2.2.1),(.d T2 y.2.2.2.1),(.d T2 y.2.2.2.2.1),(.d T2 y.2.2.2.2.2.1),(.osl 1),(.d T1 y.2.2.2.2.2.2.1)]]
 hout y := [(0,.arr 158 T6 y.2.2.2.2.2.2.2.1),(1,.arr 70 T10 y.2.2.2.2.2.2.2.2)]
 nout := 2
theorem C50_vc (j : (LI×(List (ByteArray×Int×Int)))×Int×Int×(Int×Int×Int)×(List (LI×LI×Int))×LI) (y : LI×Int×Int×Int×Int×Int×LI×(List (ByteArray×Int×Int))×(List (LI×LI×Int))) (q : f50 j = some y) : VC Tryz.f50 C50 j y := by
 unfold f50 at q
 refine OL ?_
 obtain ⟨z1,hz1,q⟩ := bE q
 refine OQ ⟨[(0,⟨[(1,P0 0 0),(2,P0 1 0),(3,P0 2 0)],[(0,.cells [(.d T1 j.1.1),(.d T8 j.1.2),(.d T2 j.2.1),(.d T2 j.2.2.1),(.d T2 j.2.2.2.1.1),(.d T2 j.2.2.2.1.2.1),(.d T2 j.2.2.2.1.2.2),(.d T11 j.2.2.2.2.1),(.d T1 j.2.2.2.2.2)]),(1,.cells [N0,N0,(.d T2 (0:Int)),(.d T2 (0:Int)),(.d T2 (0:Int)),(.d T2 (0:Int)),(.d T2 (0:Int)),N0,N0]),(2,.cells [(.d T1 z1.1),(.osl 3),(.d T2 j.2.1),(.d T2 j.2.2.1),(.d T2 j.2.2.2.1.1),(.d T2 j.2.2.2.1.2.1),(.d T2 j.2.2.2.1.2.2),N0,(.d T1 j.2.2.2.2.2)]),(3,.arr 158 T6 z1.2)],4⟩)],?_,?_⟩
 ·have q := hz1
  clear hz1
  unfold f50_j1 at q
  obtain ⟨q1_2,hq1_2,q⟩ := bE q
  refine EI (.take 0 (.take 1 (.take 3 (.take 4 (.take 5 (.take 6 (.take 7 (.take 8 (.take 9 (.take 10 (.take 11 (.take 12 (.take 13 (.take 14 (.take 15 (.take 16 (.take 17 (.take 18 (.alt 2 (.take 19 (.alt 20 (.alt 21 .done .done) .done)) (.alt 20 (.alt 2 (.take 19 (.alt 21 .done .done)) .done) .done)))))))))))))))))))) (EI [] (EI [] (AI rfl (AI (AI TV ?_) ?_))))
  ·refine AI TV (OL (AI f92_in (cV (cQ C92 (j.1.1,j.1.2) q1_2 [] false C92_holds hq1_2 rfl rfl (R2 (K0 (AI TV (OL ?_))))))))
   cases sE q
   refine E4 I4 (AI rfl (AI (R3 TV) (R4 TV)))
  refine OL (AI f92_in (cV (cQ C92 (j.1.1,j.1.2) q1_2 [] false C92_holds hq1_2 rfl rfl (R2 (K0 (AI TV (AI TV (OL ?_))))))))
  cases sE q
  refine E4 [(0,some 0),(1,some 1),(2,some 3),(3,some 2)] (AI rfl (AI (R3 TV) (R4 TV)))
 refine AI (OL (OL ?_)) TV
 obtain ⟨z2,hz2,q⟩ := bE q
 refine lI (Int×(List (LI×LI×Int))) (List (LI×LI×Int)) (fun x=>⟨[(1,P0 0 0),(2,P0 1 0),(3,P0 2 0),(4,.dat T2 x.1)],[(0,.cells [(.d T1 j.1.1),(.d T8 j.1.2),(.d T2 j.2.1),(.d T2 j.2.2.1),(.d T2 j.2.2.2.1.1),(.d T2 j.2.2.2.1.2.1),(.d T2 j.2.2.2.1.2.2),(.d T11 j.2.2.2.2.1),(.d T1 j.2.2.2.2.2)]),(1,.cells [N0,N0,(.d T2 (0:Int)),(.d T2 (0:Int)),(.d T2 (0:Int)),(.d T2 (0:Int)),(.d T2 (0:Int)),N0,N0]),(2,.cells [(.d T1 z1.1),(.osl 3),(.d T2 j.2.1),(.d T2 j.2.2.1),(.d T2 j.2.2.2.1.1),(.d T2 j.2.2.2.1.2.1),(.d T2 j.2.2.2.1.2.2),(.osl 4),(.d T1 j.2.2.2.2.2)]),(3,.arr 158 T6 z1.2),(4,.arr 70 T10 x.2)],5⟩) (fun z=>[(2,⟨[(2,P0 0 0),(3,P0 1 0)],[(0,.cells [N0,N0,(.d T2 (0:Int)),(.d T2 (0:Int)),(.d T2 (0:Int)),(.d T2 (0:Int)),(.d T2 (0:Int)),N0,N0]),(1,.cells [(.d T1 z1.1),(.osl 2),(.d T2 j.2.1),(.d T2 j.2.2.1),(.d T2 j.2.2.2.1.1),(.d T2 j.2.2.2.1.2.1),(.d T2 j.2.2.2.1.2.2),(.osl 3),(.d T1 j.2.2.2.2.2)]),(2,.arr 158 T6 z1.2),(3,.arr 70 T10 z)],4⟩)]) (loopF (fun go x=>f50_l2 j go x.1 x.2)) fuelN ((0:Int),[]) z2 (AI hz2 (AI (E4 [(0,some 0),(1,some 1),(2,some 2),(3,some 3),(4,none)] (R2 (AI (R3 TV) (R5 TV)))) (AI (fun _ _ h=>lZ h) (AI (fun m=>curI (fun i=>fun l4 z q=>?_)) ?_))))
 ·have q : f50_l2 j (loopF (fun go x=>f50_l2 j go x.1 x.2) m) i l4 = some z := q
  unfold f50_l2 at q
  refine OL (OL (cI q (fun q=>?_) (fun q=>?_)))
  ·refine OL (EI (.take 0 (.take 1 (.take 2 (.take 3 (.take 4 (.take 5 (.take 6 (.take 7 (.take 8 (.take 9 (.take 10 (.take 11 (.take 12 (.take 13 (.take 14 (.take 15 (.take 16 (.take 17 (.take 18 (.take 19 (.take 20 (.alt 21 (.alt 22 (.take 23 (.alt 24 .done .done)) .done) .done)))))))))))))))))))))) (EI [(24,[2])] (EI [] (AI rfl (gI q (fun q=>?_))))))
   refine gI q (fun q=>?_)
   refine gI q (fun q=>?_)
   refine AI TV (OL (AI TV (OL (gI q (fun q=>?_)))))
   refine AI TV (OL (EI ((i64.wrap (i + (1:Int))),(l4 ++ ([((rd (Ty.z T10) j.2.2.2.2.1 i).1,((rd (Ty.z T10) j.2.2.2.2.1 i).2).1,((rd (Ty.z T10) j.2.2.2.2.1 i).2).2)]))) (AI q (E4 [(0,some 0),(1,some 1),(2,some 2),(3,some 3),(4,some 6)] (R2 (AI (R3 TV) (R5 TV)))))))
  cases sE q
  refine E4 [(0,some 1),(1,some 2),(2,some 3),(3,some 4)] (AI rfl (AI (R2 TV) (R4 TV)))
 refine AI (OL (OL ?_)) TV
 cases sE q
 refine AI rfl (E4 [(0,some 2),(1,some 3)] (AI rfl (AJ (R2 TV))))
theorem C50_holds : HP C50 50 := hH Tryz.f50 (by kernel_rfl) rfl (fun x y q=>C50_vc x y q)
theorem f50_in : InP 50 := inP (by kernel_rfl)
def f53 (p_ : LI) : Option (LI×LI) :=
 guardF ((List.length ([] : LI) + List.length p_) * 8 ≤ 140737488355328) <|
 guardF (0 ≤ (List.length p_:Int) ∧ (List.length p_:Int) ≤ (List.length p_:Int) ∧ Int.toNat (List.length p_:Int) * 8 ≤ 140737488355328) <|
 some ((([] : LI) ++ p_),(List.replicate (Int.toNat (List.length p_:Int)) (0:Int)))
def C53 : Con where
 X := LI
 Y := LI×LI
 e := 0
 args x := [.dat T1 x]
 hin x := []
 F x := f53 x
 ret y := [.raw true [(.osl 0),(.osl 1)]]
 hout y := [(0,.arr 40 T2 y.1),(1,.arr 40 T2 y.2)]
 nout := 2
theorem C53_vc (p_ : LI) (y : LI×LI) (q : f53 p_ = some y) : VC Tryz.f53 C53 p_ y := by
 unfold f53 at q
 refine OL (OL ?_)
 obtain ⟨g1_0,q⟩ := gE q
 obtain ⟨g1_1,q⟩ := gE q
 refine EI (.take 1 (.take 3 (.take 4 (.alt 0 (.alt 2 (.alt 5 (.take 6 (.alt 7 .done .done)) .done) (.alt 5 (.alt 2 (.take 6 (.alt 7 .done .done)) .done) .done)) (.alt 5 (.alt 0 (.alt 2 (.take 6 (.alt 7 .done .done)) .done) .done) .done))))) (EI [] (EI [] (AI rfl (AI (AI TV ?_) ?_))))
 ·refine AI g1_1 (AI TV (OL (AI TV (OL (AI g1_0 (AI TV (OL ?_)))))))
  cases sE q
  refine AI rfl (E4 [(0,some 3),(1,some 1)] (AI rfl (AJ (R2 TV))))
 refine OL (AI (AI TV ?_) ?_)
 ·refine AI g1_1 (AI TV (OL (AI g1_0 (AI TV (OL ?_)))))
  cases sE q
  refine AI rfl (E4 [(0,some 3),(1,some 2)] (AI rfl (AJ (R2 TV))))
 refine OL (AI g1_0 (AI TV (AI g1_1 (AI TV (OL ?_)))))
 cases sE q
 refine AI rfl (E4 [(0,some 2),(1,some 3)] (AI rfl (AJ (R2 TV))))
theorem C53_holds : HP C53 53 := hH Tryz.f53 (by kernel_rfl) rfl (fun x y q=>C53_vc x y q)
theorem f53_in : InP 53 := inP (by kernel_rfl)
def f97_j1 (total:Int) (size:Int) (step:Int) : Option (Sum Unit Unit) :=
 bif (decide (total < (1:Int))) then
 some (Sum.inr ())
 else
 bif (decide (total > (256:Int))) then
 some (Sum.inr ())
 else
 bif (decide (size < (1:Int))) then
 some (Sum.inr ())
 else
 bif (decide (size > total)) then
 some (Sum.inr ())
 else
 bif (decide (step < (0:Int))) then
 some (Sum.inr ())
 else
 some (Sum.inl ())
def f97_l2 (total:Int) (size:Int) (step:Int) (go : (Int×LI) → Option LI) (i:Int) (l0 : LI) : Option LI :=
 bif (decide (i < size)) then
 guardF (total ≠ 0) <|
 guardF ((List.length l0 + List.length ([(Int.tmod (i64.wrap ((Int.tmod (i64.wrap ((Int.tmod step total) * size)) total) + i)) total)])) * 8 ≤ 140737488355328) <|
 go ((i64.wrap (i + (1:Int))),(l0 ++ ([(Int.tmod (i64.wrap ((Int.tmod (i64.wrap ((Int.tmod step total) * size)) total) + i)) total)])))
 else
 some l0
def f97 (total:Int) (size:Int) (step:Int) : Option (Int×LI) :=
 bindF (f97_j1 total size step) fun z1 =>
 sumF z1 (fun z1a =>
 guardF (total ≠ 0) <|
 guardF (total ≠ 0) <|
 bindF (loopF (fun go x=>f97_l2 total size step go x.1 x.2) fuelN ((0:Int),[])) fun z2 =>
 some ((0:Int),z2)) (fun z1b =>
 some ((1:Int),[]))
def C97 : Con where
 X := Int×Int×Int
 Y := Int×LI
 e := 0
 args x := [.dat T2 x.1,.dat T2 x.2.1,.dat T2 x.2.2]
 hin x := []
 F x := f97 x.1 x.2.1 x.2.2
 ret y := [O0 0,.dat T2 y.1]
 hout y := [(0,.arr 3 T2 y.2)]
 nout := 1
theorem C97_vc (total:Int) (size:Int) (step:Int) (y : Int×LI) (q : f97 total size step = some y) : VC Tryz.f97 C97 (total,size,step) y := by
 unfold f97 at q
 refine OL ?_
 obtain ⟨z1,hz1,q⟩ := bE q
 refine OQ ⟨Sum.elim (fun z1a=>[(0,⟨[(0,.dat T2 total),(1,.dat T2 size),(2,.dat T2 step)],[],0⟩)]) (fun z1b=>[(1,⟨[(6,.raw false [N0]),(7,D0 1)],[],0⟩)]) z1,?_,?_⟩
 ·have q := hz1
  clear hz1
  unfold f97_j1 at q
  refine OL (cN q (fun q=>?_) (fun q=>?_))
  ·refine gY (cF (cN q (fun q=>?_) (fun q=>?_)))
   ·refine gY (cF (cN q (fun q=>?_) (fun q=>?_)))
    ·refine gY (gY (cF (cN q (fun q=>?_) (fun q=>?_))))
     ·refine gY (cF (cI q (fun q=>?_) (fun q=>?_)))
      ·cases sE q
       refine OL (E4 [] (R2 (AJ TV)))
      cases sE q
      refine E4 [] (R4 (AI TV TV))
     refine gN (cT (cT (OL ?_)))
     cases sE q
     refine E4 [] (R2 (AJ TV))
    refine gN (gN (cT (gN (gN (cT (cT (OL ?_)))))))
    cases sE q
    refine E4 [] (R2 (AJ TV))
   refine gN (cT (gN (gN (gN (cT (gN (gN (cT (cT (OL ?_))))))))))
   cases sE q
   refine E4 [] (R2 (AJ TV))
  refine gN (cT (gN (gN (cT (gN (gN (gN (cT (gN (gN (cT (cT (OL ?_)))))))))))))
  cases sE q
  refine E4 [] (R2 (AJ TV))
 rcases z1 with z1a | z1b
 ·dsimp only [sumF] at q
  refine AI (OL (gI q (fun q=>?_))) TV
  refine gI q (fun q=>?_)
  refine OL (OL (OL ?_))
  obtain ⟨z2,hz2,q⟩ := bE q
  refine lI (Int×LI) LI (fun x=>⟨[(0,.dat T2 total),(1,.dat T2 size),(8,.dat T2 (Int.tmod (i64.wrap ((Int.tmod step total) * size)) total)),(9,O0 0),(10,.dat T2 x.1)],[(0,.arr 3 T2 x.2)],1⟩) (fun z=>[(2,⟨[(9,O0 0)],[(0,.arr 3 T2 z)],1⟩)]) (loopF (fun go x=>f97_l2 total size step go x.1 x.2)) fuelN ((0:Int),[]) z2 (AI hz2 (AI (E4 [(0,none)] (R5 (AJ (AI rfl TV)))) (AI (fun _ _ h=>lZ h) (AI (fun m=>curI (fun i=>fun l0 z q=>?_)) ?_))))
  ·have q : f97_l2 total size step (loopF (fun go x=>f97_l2 total size step go x.1 x.2) m) i l0 = some z := q
   unfold f97_l2 at q
   refine OL (OL (cI q (fun q=>?_) (fun q=>?_)))
   ·refine OL (gI q (fun q=>?_))
    refine OL (OL (gI q (fun q=>?_)))
    refine EI ((i64.wrap (i + (1:Int))),(l0 ++ ([(Int.tmod (i64.wrap ((Int.tmod (i64.wrap ((Int.tmod step total) * size)) total) + i)) total)]))) (AI q (E4 [(0,some 2)] (R5 (AJ (AI rfl TV)))))
   cases sE q
   refine E4 [(0,some 0)] (AI rfl (AJ (AI rfl TV)))
  refine AI (OL ?_) TV
  cases sE q
  refine AI rfl (E4 [(0,some 0)] (R2 (AJ (AI rfl TV))))
 dsimp only [sumF] at q
 refine AI ?_ TV
 cases sE q
 refine AI rfl (E4 [(0,none)] (R2 (AJ (AI rfl TV))))
theorem C97_holds : HP C97 97 := hH Tryz.f97 (by kernel_rfl) rfl (fun x y q=>C97_vc x.1 x.2.1 x.2.2 y q)
theorem f97_in : InP 97 := inP (by kernel_rfl)
def f197 (a_Neg : Bool) (a_M_0:Int) (a_M_1:Int) (a_M_2:Int) (a_M_3:Int) : Option Bool :=
 some ((bitsOf IntKind.u64 (fun p q=>p ||| q) (bitsOf IntKind.u64 (fun p q=>p ||| q) (bitsOf IntKind.u64 (fun p q=>p ||| q) a_M_0 a_M_1) a_M_2) a_M_3) == (0:Int))
def C197 : Con where
 X := Bool×Int×Int×Int×Int
 Y := Bool
 e := 0
 args x := [.raw true [(.d .bool x.1),(.d T4 x.2.1),(.d T4 x.2.2.1),(.d T4 x.2.2.2.1),(.d T4 x.2.2.2.2)]]
 hin x := []
 F x := f197 x.1 x.2.1 x.2.2.1 x.2.2.2.1 x.2.2.2.2
 ret y := [.dat .bool y]
 hout y := []
 nout := 0
theorem C197_vc (a_Neg : Bool) (a_M_0:Int) (a_M_1:Int) (a_M_2:Int) (a_M_3:Int) (y : Bool) (q : f197 a_Neg a_M_0 a_M_1 a_M_2 a_M_3 = some y) : VC Tryz.f197 C197 (a_Neg,a_M_0,a_M_1,a_M_2,a_M_3) y := by
 unfold f197 at q
 refine OL (OL (AI (by decide) (AI (fun _=>?_) (AI (fun h=>absurd h (by decide)) (AI (fun h=>absurd h (by decide)) (AI (fun h=>absurd h (by decide)) TV))))))
 refine AI (by decide) (AI (fun h=>absurd h (by decide)) ?_)
 refine AI (fun _=>?_) (AI (fun h=>absurd h (by decide)) (AI (fun h=>absurd h (by decide)) TV))
 refine AI (by decide) (AI (fun h=>absurd h (by decide)) ?_)
 refine AI (fun h=>absurd h (by decide)) ?_
 refine AI (fun _=>?_) (AI (fun h=>absurd h (by decide)) TV)
 refine AI (by decide) (AI (fun h=>absurd h (by decide)) ?_)
 refine AI (fun h=>absurd h (by decide)) ?_
 refine AI (fun h=>absurd h (by decide)) ?_
 refine AI (fun _=>?_) TV
 cases sE q
 refine AI rfl (E4 [] (R2 (AI TV TV)))
theorem C197_holds : HP C197 197 := hH Tryz.f197 (by kernel_rfl) rfl (fun x y q=>C197_vc x.1 x.2.1 x.2.2.1 x.2.2.2.1 x.2.2.2.2 y q)
theorem f197_in : InP 197 := inP (by kernel_rfl)
def f147 (a : Int×Int) (n:Int) : Option Int :=
 bindF (f140 (a.1,a.2)) fun r1 =>
 bif (n == (0:Int)) then
 bindF (f197 r1.1 r1.2.1 r1.2.2 (0:Int) (0:Int)) fun q3_3 =>
 bindF (f196 r1.1 q3_3) fun q3_4 =>
 some q3_4
 else
 bindF (f121 r1.1 r1.2.1 r1.2.2 (0:Int) (0:Int) n) fun q3_5 =>
 bindF (f120 q3_5.1 q3_5.2.1 q3_5.2.2.1 q3_5.2.2.2.1 q3_5.2.2.2.2) fun r2 =>
 some r2
def C147 : Con where
 X := (Int×Int)×Int
 Y := Int
 e := 0
 args x := [.dat T5 x.1,.dat T2 x.2]
 hin x := []
 F x := f147 x.1 x.2
 ret y := [.dat T2 y]
 hout y := []
 nout := 0
theorem C147_vc (a : Int×Int) (n:Int) (y:Int) (q : f147 a n = some y) : VC Tryz.f147 C147 (a,n) y := by
 unfold f147 at q
 refine OL (OL ?_)
 obtain ⟨r1,hr1,q⟩ := bE q
 refine OL (AI f140_in (cV (cQ C140 (a.1,a.2) r1 [] false C140_holds hr1 rfl rfl (R2 (K0 (OL (OL (OL (cI q (fun q=>?_) (fun q=>?_))))))))))
 ·refine OL (EI (.take 0 (.take 1 (.take 2 (.alt 3 (.alt 4 (.take 5 .done) .done) .done)))) (EI [] (EI [] (AI rfl (AI TV ?_)))))
  obtain ⟨q3_3,hq3_3,q⟩ := bE q
  refine OL (AI f197_in (cV (cQ C197 (r1.1,r1.2.1,r1.2.2,(0:Int),(0:Int)) q3_3 [] false C197_holds hq3_3 rfl rfl (AI NH (R2 (AJ (AI TV (AI TV ?_))))))))
  obtain ⟨q3_4,hq3_4,q⟩ := bE q
  refine OL (AI f196_in (cV (cQ C196 (r1.1,q3_3) q3_4 [] false C196_holds hq3_4 rfl rfl (R2 (K0 ?_)))))
  cases sE q
  refine AI rfl (E4 [] (R2 (AI TV TV)))
 refine OL ?_
 obtain ⟨q3_5,hq3_5,q⟩ := bE q
 refine OL (AI f121_in (cV (cQ C121 (r1.1,r1.2.1,r1.2.2,(0:Int),(0:Int),n) q3_5 [] false C121_holds hq3_5 rfl rfl (AI rfl (AI NH (R2 (AJ (AI TV ?_))))))))
 obtain ⟨r2,hr2,q⟩ := bE q
 refine OL (AI f120_in (cV (cQ C120 (q3_5.1,q3_5.2.1,q3_5.2.2.1,q3_5.2.2.2.1,q3_5.2.2.2.2) r2 [] false C120_holds hr2 rfl rfl (AI NH (R2 (AJ (AI TV ?_)))))))
 cases sE q
 refine AI rfl (E4 [] (R2 (AI TV TV)))
theorem C147_holds : HP C147 147 := hH Tryz.f147 (by kernel_rfl) rfl (fun x y q=>C147_vc x.1 x.2 y q)
theorem f147_in : InP 147 := inP (by kernel_rfl)
def f98_j3 (s : LI×LI) (g : List (Int×Int)) : Option Bool :=
 bif ((List.length s.1:Int) != (List.length s.2:Int)) then
 some true
 else
 some ((List.length s.1:Int) != (List.length g:Int))
def f98_j2 (s : LI×LI) (g : List (Int×Int)) : Option (Sum Unit Unit) :=
 bindF (f98_j3 s g) fun z3 =>
 bif z3 then
 some (Sum.inr ())
 else
 some (Sum.inl ())
def f98_j6 (many:Int) (r : Int×Int×Int) : Option Bool :=
 bif (decide (many < (1:Int))) then
 some true
 else
 some (decide (r.2.2 < (0:Int)))
def f98_j5 (many:Int) (r : Int×Int×Int) : Option (Sum Unit Unit) :=
 bindF (f98_j6 many r) fun z6 =>
 bif z6 then
 some (Sum.inr ())
 else
 some (Sum.inl ())
def f98_j22 (r : Int×Int×Int) (r22:Int) : Option Bool :=
 bif (decide (r.2.2 > (0:Int))) then
 some (decide (r22 > r.2.2))
 else
 some false
def f98_j21 (r : Int×Int×Int) (r22:Int) : Option Int :=
 bindF (f98_j22 r r22) fun z25 =>
 bif z25 then
 some r.2.2
 else
 some r22
def f98_j25 (r : Int×Int×Int) (z24:Int) : Option Bool :=
 bif (decide (r.2.2 > (0:Int))) then
 some (decide (z24 < (i64.wrap (0 - r.2.2))))
 else
 some false
def f98_j24 (r : Int×Int×Int) (z24:Int) : Option Int :=
 bindF (f98_j25 r z24) fun z28 =>
 bif z28 then
 some (i64.wrap (0 - r.2.2))
 else
 some z24
def f98_l19 (s : LI×LI) (g : List (Int×Int)) (many:Int) (r : Int×Int×Int) (go : (Int×LI×LI) → Option (LI×LI)) (i:Int) (l4 : LI) (l5 : LI) : Option (LI×LI) :=
 bif (decide (i < (List.length g:Int))) then
 guardF (0 ≤ i ∧ i < (List.length g:Int)) <|
 bindF (f147 ((rd (Ty.z T5) g i).1,(rd (Ty.z T5) g i).2) many) fun r22 =>
 bindF (f98_j21 r r22) fun z24 =>
 bindF (f98_j24 r z24) fun z27 =>
 guardF (0 ≤ i ∧ i < (List.length s.2:Int)) <|
 bindF (f131 r.2.1 (rd (0:Int) s.2 i)) fun q14_7 =>
 bindF (f129 q14_7 z27) fun q14_9 =>
 guardF ((List.length l5 + List.length ([q14_9])) * 8 ≤ 140737488355328) <|
 guardF (0 ≤ i ∧ i < (List.length s.1:Int)) <|
 bindF (f131 r.1 q14_9) fun q16_10 =>
 bindF (f130 (rd (0:Int) s.1 i) q16_10) fun q16_11 =>
 guardF ((List.length l4 + List.length ([q16_11])) * 8 ≤ 140737488355328) <|
 go ((i64.wrap (i + (1:Int))),(l4 ++ ([q16_11])),(l5 ++ ([q14_9])))
 else
 some (l4,l5)
def f98 (s : LI×LI) (g : List (Int×Int)) (many:Int) (r : Int×Int×Int) : Option (Int×LI×LI) :=
 bindF (f98_j2 s g) fun z2 =>
 sumF z2 (fun z2a =>
 bindF (f98_j5 many r) fun z5 =>
 sumF z5 (fun z5a =>
 bindF (loopF (fun go x=>f98_l19 s g many r go x.1 x.2.1 x.2.2) fuelN ((0:Int),[],[])) fun z21 =>
 some ((0:Int),z21.1,z21.2)) (fun z5b =>
 some ((1:Int),[],[]))) (fun z2b =>
 some ((4:Int),[],[]))
def C98 : Con where
 X := (LI×LI)×(List (Int×Int))×Int×(Int×Int×Int)
 Y := Int×LI×LI
 e := 0
 args x := [.dat T3 x.1,.dat T13 x.2.1,.dat T2 x.2.2.1,.dat T14 x.2.2.2]
 hin x := []
 F x := f98 x.1 x.2.1 x.2.2.1 x.2.2.2
 ret y := [.raw true [(.osl 0),(.osl 1)],.dat T2 y.1]
 hout y := [(0,.arr 40 T2 y.2.1),(1,.arr 40 T2 y.2.2)]
 nout := 2
theorem C98_vc (s : LI×LI) (g : List (Int×Int)) (many:Int) (r : Int×Int×Int) (y : Int×LI×LI) (q : f98 s g many r = some y) : VC Tryz.f98 C98 (s,g,many,r) y := by
 unfold f98 at q
 refine OL ?_
 obtain ⟨z2,hz2,q⟩ := bE q
 refine OQ ⟨Sum.elim (fun z2a=>[(0,⟨[(1,.dat T13 g),(2,.dat T2 many),(4,P0 0 0),(7,P0 1 0),(8,P0 2 0)],[(0,.cells [(.d T1 s.1),(.d T1 s.2)]),(1,.cells [(.d T2 r.1),(.d T2 r.2.1),(.d T2 r.2.2)]),(2,.cells [N0,N0])],3⟩)]) (fun z2b=>[(1,⟨[(8,P0 0 0),(9,D0 4)],[(0,.cells [N0,N0])],1⟩)]) z2,?_,?_⟩
 ·have q := hz2
  clear hz2
  unfold f98_j2 at q
  obtain ⟨z3,hz3,q⟩ := bE q
  refine OQ ⟨[(0,⟨[(1,.dat T13 g),(2,.dat T2 many),(4,P0 0 0),(7,P0 1 0),(8,P0 2 0),(28,.dat .bool z3)],[(0,.cells [(.d T1 s.1),(.d T1 s.2)]),(1,.cells [(.d T2 r.1),(.d T2 r.2.1),(.d T2 r.2.2)]),(2,.cells [N0,N0])],3⟩)],?_,?_⟩
  ·have q := hz3
   clear hz3
   unfold f98_j3 at q
   refine cN q (fun q=>?_) (fun q=>?_)
   ·refine gY (gY (gY (gY (gY (cF ?_)))))
    cases sE q
    refine E4 I3 (R4 (AI (R3 TV) (R3 TV)))
   refine gN (gN (gN (gN (gN (cT ?_)))))
   cases sE q
   refine E4 I3 (R4 (AI (R3 TV) (R3 TV)))
  refine AI (cI q (fun q=>?_) (fun q=>?_)) TV
  ·refine OL (OL ?_)
   cases sE q
   refine E4 [(0,some 2)] (R2 (AJ (AI rfl TV)))
  cases sE q
  refine E4 I3 (R3 (AI (R3 TV) (R3 TV)))
 rcases z2 with z2a | z2b
 ·dsimp only [sumF] at q
  refine AI ?_ TV
  obtain ⟨z5,hz5,q⟩ := bE q
  refine OQ ⟨Sum.elim (fun z5a=>[(0,⟨[(1,.dat T13 g),(2,.dat T2 many),(4,P0 0 0),(7,P0 1 0),(8,P0 2 0)],[(0,.cells [(.d T1 s.1),(.d T1 s.2)]),(1,.cells [(.d T2 r.1),(.d T2 r.2.1),(.d T2 r.2.2)]),(2,.cells [N0,N0])],3⟩)]) (fun z5b=>[(1,⟨[(8,P0 0 0),(9,D0 1)],[(0,.cells [N0,N0])],1⟩)]) z5,?_,?_⟩
  ·have q := hz5
   clear hz5
   unfold f98_j5 at q
   obtain ⟨z6,hz6,q⟩ := bE q
   refine OQ ⟨[(0,⟨[(1,.dat T13 g),(2,.dat T2 many),(4,P0 0 0),(7,P0 1 0),(8,P0 2 0),(36,.dat .bool z6)],[(0,.cells [(.d T1 s.1),(.d T1 s.2)]),(1,.cells [(.d T2 r.1),(.d T2 r.2.1),(.d T2 r.2.2)]),(2,.cells [N0,N0])],3⟩)],?_,?_⟩
   ·have q := hz6
    clear hz6
    unfold f98_j6 at q
    refine cN q (fun q=>?_) (fun q=>?_)
    ·refine gY (gY (cF ?_))
     cases sE q
     refine E4 I3 (R4 (AI (R3 TV) (R3 TV)))
    refine gN (gN (cT ?_))
    cases sE q
    refine E4 I3 (R4 (AI (R3 TV) (R3 TV)))
   refine AI (cI q (fun q=>?_) (fun q=>?_)) TV
   ·refine OL (OL ?_)
    cases sE q
    refine E4 [(0,some 2)] (R2 (AJ (AI rfl TV)))
   cases sE q
   refine E4 I3 (R3 (AI (R3 TV) (R3 TV)))
  rcases z5 with z5a | z5b
  ·dsimp only [sumF] at q
   refine AI (OL (OL (OL (OL ?_)))) TV
   obtain ⟨z21,hz21,q⟩ := bE q
   refine lI (Int×LI×LI) (LI×LI) (fun x=>⟨[(1,.dat T13 g),(2,.dat T2 many),(4,P0 0 0),(7,P0 1 0),(8,P0 2 0),(10,P0 3 0),(11,.dat T2 x.1)],[(0,.cells [(.d T1 s.1),(.d T1 s.2)]),(1,.cells [(.d T2 r.1),(.d T2 r.2.1),(.d T2 r.2.2)]),(2,.cells [N0,N0]),(3,.cells [(.osl 4),(.osl 5)]),(4,.arr 40 T2 x.2.1),(5,.arr 40 T2 x.2.2)],6⟩) (fun z=>[(2,⟨[(8,P0 0 0),(10,P0 1 0)],[(0,.cells [N0,N0]),(1,.cells [(.osl 2),(.osl 3)]),(2,.arr 40 T2 z.1),(3,.arr 40 T2 z.2)],4⟩)]) (loopF (fun go x=>f98_l19 s g many r go x.1 x.2.1 x.2.2)) fuelN ((0:Int),[],[]) z21 (AI hz21 (AI (E4 [(0,some 0),(1,some 1),(2,some 2),(3,some 3),(4,none),(5,none)] (R4 (AI (R4 TV) (R6 TV)))) (AI (fun _ _ h=>lZ h) (AI (fun m=>curI (fun i=>curI (fun l4=>fun l5 z q=>?_))) ?_))))
   ·have q : f98_l19 s g many r (loopF (fun go x=>f98_l19 s g many r go x.1 x.2.1 x.2.2) m) i l4 l5 = some z := q
    unfold f98_l19 at q
    refine OL (OL (cI q (fun q=>?_) (fun q=>?_)))
    ·refine OL (OL (gI q (fun q=>?_)))
     obtain ⟨r22,hr22,q⟩ := bE q
     refine OL (AI f147_in (cV (cQ C147 (((rd (Ty.z T5) g i).1,(rd (Ty.z T5) g i).2),many) r22 [] false C147_holds hr22 rfl rfl (R3 (K0 ?_)))))
     obtain ⟨z24,hz24,q⟩ := bE q
     refine OQ ⟨[(0,⟨[(1,.dat T13 g),(2,.dat T2 many),(4,P0 0 0),(7,P0 1 0),(8,P0 2 0),(10,P0 3 0),(11,.dat T2 i),(12,.dat T2 z24)],[(0,.cells [(.d T1 s.1),(.d T1 s.2)]),(1,.cells [(.d T2 r.1),(.d T2 r.2.1),(.d T2 r.2.2)]),(2,.cells [N0,N0]),(3,.cells [(.osl 4),(.osl 5)]),(4,.arr 40 T2 l4),(5,.arr 40 T2 l5)],6⟩)],?_,?_⟩
     ·have q := hz24
      clear hz24
      unfold f98_j21 at q
      obtain ⟨z25,hz25,q⟩ := bE q
      refine OQ ⟨[(0,⟨[(1,.dat T13 g),(2,.dat T2 many),(4,P0 0 0),(7,P0 1 0),(8,P0 2 0),(10,P0 3 0),(11,.dat T2 i),(12,.dat T2 r22),(59,.dat .bool z25)],[(0,.cells [(.d T1 s.1),(.d T1 s.2)]),(1,.cells [(.d T2 r.1),(.d T2 r.2.1),(.d T2 r.2.2)]),(2,.cells [N0,N0]),(3,.cells [(.osl 4),(.osl 5)]),(4,.arr 40 T2 l4),(5,.arr 40 T2 l5)],6⟩)],?_,?_⟩
      ·have q := hz25
       clear hz25
       unfold f98_j22 at q
       refine cI q (fun q=>?_) (fun q=>?_)
       ·refine gX (gX (gX (cT ?_)))
        cases sE q
        refine E4 I6 (R6 (AI (R4 TV) (R6 TV)))
       refine gM (gM (gM (cF ?_)))
       cases sE q
       refine E4 I6 (R6 (AI (R4 TV) (R6 TV)))
      refine AI (cI q (fun q=>?_) (fun q=>?_)) TV
      ·cases sE q
       refine E4 I6 (R5 (AI (R4 TV) (R6 TV)))
      cases sE q
      refine E4 I6 (R5 (AI (R4 TV) (R6 TV)))
     refine AI ?_ TV
     obtain ⟨z27,hz27,q⟩ := bE q
     refine OQ ⟨[(0,⟨[(1,.dat T13 g),(2,.dat T2 many),(4,P0 0 0),(7,P0 1 0),(8,P0 2 0),(10,P0 3 0),(11,.dat T2 i),(12,.dat T2 z27)],[(0,.cells [(.d T1 s.1),(.d T1 s.2)]),(1,.cells [(.d T2 r.1),(.d T2 r.2.1),(.d T2 r.2.2)]),(2,.cells [N0,N0]),(3,.cells [(.osl 4),(.osl 5)]),(4,.arr 40 T2 l4),(5,.arr 40 T2 l5)],6⟩)],?_,?_⟩
     ·have q := hz27
      clear hz27
      unfold f98_j24 at q
      obtain ⟨z28,hz28,q⟩ := bE q
      refine OQ ⟨[(0,⟨[(1,.dat T13 g),(2,.dat T2 many),(4,P0 0 0),(7,P0 1 0),(8,P0 2 0),(10,P0 3 0),(11,.dat T2 i),(12,.dat T2 z24),(71,.dat .bool z28)],[(0,.cells [(.d T1 s.1),(.d T1 s.2)]),(1,.cells [(.d T2 r.1),(.d T2 r.2.1),(.d T2 r.2.2)]),(2,.cells [N0,N0]),(3,.cells [(.osl 4),(.osl 5)]),(4,.arr 40 T2 l4),(5,.arr 40 T2 l5)],6⟩)],?_,?_⟩
      ·have q := hz28
       clear hz28
       unfold f98_j25 at q
       refine cI q (fun q=>?_) (fun q=>?_)
       ·refine gX (gX (gX (gX (cT ?_))))
        cases sE q
        refine E4 I6 (R6 (AI (R4 TV) (R6 TV)))
       refine gM (gM (gM (gM (cF ?_))))
       cases sE q
       refine E4 I6 (R6 (AI (R4 TV) (R6 TV)))
      refine AI (cI q (fun q=>?_) (fun q=>?_)) TV
      ·cases sE q
       refine E4 I6 (R5 (AI (R4 TV) (R6 TV)))
      cases sE q
      refine E4 I6 (R5 (AI (R4 TV) (R6 TV)))
     refine AI (OL (EI (.take 0 (.take 1 (.take 2 (.take 3 (.take 4 (.take 5 (.take 6 (.take 8 (.alt 7 (.alt 9 (.take 10 .done) .done) .done))))))))) (EI [] (EI [] (AI rfl (gI q (fun q=>?_))))))) TV
     refine AI TV ?_
     obtain ⟨q14_7,hq14_7,q⟩ := bE q
     refine OL (AI f131_in (cV (cQ C131 (r.2.1,(rd (0:Int) s.2 i)) q14_7 [] false C131_holds hq14_7 rfl rfl (R2 (K0 (AI TV ?_))))))
     obtain ⟨q14_9,hq14_9,q⟩ := bE q
     refine OL (AI f129_in (cV (cQ C129 (q14_7,z27) q14_9 [] false C129_holds hq14_9 rfl rfl (R2 (K0 (OL (OL (OL (gI q (fun q=>?_))))))))))
     refine OL (EI (.take 0 (.take 1 (.take 2 (.take 3 (.take 4 (.take 5 (.take 6 (.take 7 (.take 8 (.take 9 (.alt 10 (.alt 11 (.alt 12 (.alt 13 (.take 14 (.alt 15 .done .done)) .done) .done) .done) .done))))))))))) (EI [(15,[3])] (EI [] (AI rfl (gI q (fun q=>?_))))))
     refine AI TV ?_
     obtain ⟨q16_10,hq16_10,q⟩ := bE q
     refine OL (AI f131_in (cV (cQ C131 (r.1,q14_9) q16_10 [] false C131_holds hq16_10 rfl rfl (R2 (K0 (AI TV ?_))))))
     obtain ⟨q16_11,hq16_11,q⟩ := bE q
     refine OL (AI f130_in (cV (cQ C130 ((rd (0:Int) s.1 i),q16_10) q16_11 [] false C130_holds hq16_11 rfl rfl (R2 (K0 (AI TV (OL (AI TV (OL (gI q (fun q=>?_)))))))))))
     refine AI TV (OL (EI ((i64.wrap (i + (1:Int))),(l4 ++ ([q16_11])),(l5 ++ ([q14_9]))) (AI q (E4 [(0,some 0),(1,some 1),(2,some 2),(3,some 3),(4,some 9),(5,some 7)] (R4 (AI (R4 TV) (R6 TV)))))))
    cases sE q
    refine E4 [(0,some 2),(1,some 3),(2,some 4),(3,some 5)] (AI rfl (AI (R2 TV) (R4 TV)))
   refine AI (OL (OL ?_)) TV
   cases sE q
   refine AI rfl (E4 [(0,some 2),(1,some 3)] (R2 (AJ (R2 TV))))
  dsimp only [sumF] at q
  refine AI ?_ TV
  cases sE q
  refine AI rfl (E4 [(0,none),(1,none)] (R2 (AJ (R2 TV))))
 dsimp only [sumF] at q
 refine AI ?_ TV
 cases sE q
 refine AI rfl (E4 [(0,none),(1,none)] (R2 (AJ (R2 TV))))
theorem C98_holds : HP C98 98 := hH Tryz.f98 (by kernel_rfl) rfl (fun x y q=>C98_vc x.1 x.2.1 x.2.2.1 x.2.2.2 y q)
theorem f98_in : InP 98 := inP (by kernel_rfl)
def f57_l1 (j : (LI×(List (ByteArray×Int×Int)))×Int×Int×(Int×Int×Int)×(List (LI×LI×Int))×LI) (r1 : Int×LI) (go : (Int×(List (LI×LI×Int))) → Option (List (LI×LI×Int))) (i:Int) (l5 : List (LI×LI×Int)) : Option (List (LI×LI×Int)) :=
 bif (decide (i < (List.length r1.2:Int))) then
 guardF (0 ≤ i ∧ i < (List.length r1.2:Int)) <|
 guardF (0 ≤ (rd (0:Int) r1.2 i) ∧ (rd (0:Int) r1.2 i) < (List.length j.2.2.2.2.1:Int)) <|
 guardF ((List.length l5 + List.length ([((rd (Ty.z T10) j.2.2.2.2.1 (rd (0:Int) r1.2 i)).1,((rd (Ty.z T10) j.2.2.2.2.1 (rd (0:Int) r1.2 i)).2).1,((rd (Ty.z T10) j.2.2.2.2.1 (rd (0:Int) r1.2 i)).2).2)])) * 56 ≤ 140737488355328) <|
 go ((i64.wrap (i + (1:Int))),(l5 ++ ([((rd (Ty.z T10) j.2.2.2.2.1 (rd (0:Int) r1.2 i)).1,((rd (Ty.z T10) j.2.2.2.2.1 (rd (0:Int) r1.2 i)).2).1,((rd (Ty.z T10) j.2.2.2.2.1 (rd (0:Int) r1.2 i)).2).2)])))
 else
 some l5
def f57 (j : (LI×(List (ByteArray×Int×Int)))×Int×Int×(Int×Int×Int)×(List (LI×LI×Int))×LI) (s : LI×LI) (k:Int) : Option (Int×Int×LI×LI) :=
 bindF (f97 (List.length j.2.2.2.2.1:Int) j.2.2.1 k) fun r1 =>
 bindF (loopF (fun go x=>f57_l1 j r1 go x.1 x.2) fuelN ((0:Int),[])) fun z2 =>
 bindF (f39 (j.1.1,j.1.2) j.2.1 s.1 z2) fun q6_11 =>
 bindF (f98 (s.1,s.2) q6_11.2.2.2 (List.length z2:Int) (j.2.2.2.1.1,j.2.2.2.1.2.1,j.2.2.2.1.2.2)) fun r3 =>
 some (q6_11.1,q6_11.2.1,r3.2.1,r3.2.2)
def C57 : Con where
 X := ((LI×(List (ByteArray×Int×Int)))×Int×Int×(Int×Int×Int)×(List (LI×LI×Int))×LI)×(LI×LI)×Int
 Y := Int×Int×LI×LI
 e := 0
 args x := [.dat T12 x.1,.dat T3 x.2.1,.dat T2 x.2.2]
 hin x := []
 F x := f57 x.1 x.2.1 x.2.2
 ret y := [.raw true [(.osl 0),(.osl 1)],.raw true [(.d T2 y.1),(.d T4 y.2.1)]]
 hout y := [(0,.arr 40 T2 y.2.2.1),(1,.arr 40 T2 y.2.2.2)]
 nout := 2
theorem C57_vc (j : (LI×(List (ByteArray×Int×Int)))×Int×Int×(Int×Int×Int)×(List (LI×LI×Int))×LI) (s : LI×LI) (k:Int) (y : Int×Int×LI×LI) (q : f57 j s k = some y) : VC Tryz.f57 C57 (j,s,k) y := by
 unfold f57 at q
 refine OL (OL ?_)
 obtain ⟨r1,hr1,q⟩ := bE q
 refine OL (AI f97_in (cV (cQ C97 ((List.length j.2.2.2.2.1:Int),j.2.2.1,k) r1 [] false C97_holds hr1 rfl rfl (R3 (K0 (OL (OL (OL ?_))))))))
 obtain ⟨z2,hz2,q⟩ := bE q
 refine lI (Int×(List (LI×LI×Int))) (List (LI×LI×Int)) (fun x=>⟨[(3,P0 0 0),(4,P0 1 0),(6,P0 2 0),(7,P0 3 0),(8,O0 4),(10,O0 5),(11,.dat T2 x.1)],[(0,.cells [(.d T1 j.1.1),(.d T8 j.1.2),(.d T2 j.2.1),(.d T2 j.2.2.1),(.d T2 j.2.2.2.1.1),(.d T2 j.2.2.2.1.2.1),(.d T2 j.2.2.2.1.2.2),(.d T11 j.2.2.2.2.1),(.d T1 j.2.2.2.2.2)]),(1,.cells [(.d T1 s.1),(.d T1 s.2)]),(2,.cells [N0,N0]),(3,.cells [(.d T2 (0:Int)),(.d T4 (0:Int))]),(4,.arr 3 T2 r1.2),(5,.arr 70 T10 x.2)],6⟩) (fun z=>[(2,⟨[(3,P0 0 0),(4,P0 1 0),(6,P0 2 0),(7,P0 3 0),(10,O0 4)],[(0,.cells [(.d T1 j.1.1),(.d T8 j.1.2),(.d T2 j.2.1),(.d T2 j.2.2.1),(.d T2 j.2.2.2.1.1),(.d T2 j.2.2.2.1.2.1),(.d T2 j.2.2.2.1.2.2),(.d T11 j.2.2.2.2.1),(.d T1 j.2.2.2.2.2)]),(1,.cells [(.d T1 s.1),(.d T1 s.2)]),(2,.cells [N0,N0]),(3,.cells [(.d T2 (0:Int)),(.d T4 (0:Int))]),(4,.arr 70 T10 z)],5⟩)]) (loopF (fun go x=>f57_l1 j r1 go x.1 x.2)) fuelN ((0:Int),[]) z2 (AI hz2 (AI (E4 [(0,some 0),(1,some 1),(2,some 2),(3,some 3),(4,some 4),(5,none)] (R2 (AI (R6 TV) (R6 TV)))) (AI (fun _ _ h=>lZ h) (AI (fun m=>curI (fun i=>fun l5 z q=>?_)) ?_))))
 ·have q : f57_l1 j r1 (loopF (fun go x=>f57_l1 j r1 go x.1 x.2) m) i l5 = some z := q
  unfold f57_l1 at q
  refine OL (OL (cI q (fun q=>?_) (fun q=>?_)))
  ·refine OL (EI (.take 0 (.take 1 (.take 2 (.take 3 (.take 4 (.take 5 (.take 6 (.take 7 (.take 8 (.alt 9 (.alt 10 (.take 11 .done) .done) .done)))))))))) (EI [] (EI [] (AI rfl (gI q (fun q=>?_))))))
   refine gI q (fun q=>?_)
   refine AI TV (OL (AI TV (OL (gI q (fun q=>?_)))))
   refine EI ((i64.wrap (i + (1:Int))),(l5 ++ ([((rd (Ty.z T10) j.2.2.2.2.1 (rd (0:Int) r1.2 i)).1,((rd (Ty.z T10) j.2.2.2.2.1 (rd (0:Int) r1.2 i)).2).1,((rd (Ty.z T10) j.2.2.2.2.1 (rd (0:Int) r1.2 i)).2).2)]))) (AI q (E4 [(0,some 0),(1,some 1),(2,some 2),(3,some 3),(4,some 4),(5,some 7)] (R2 (AI (R6 TV) (R6 TV)))))
  cases sE q
  refine E4 [(0,some 0),(1,some 1),(2,some 2),(3,some 3),(4,some 5)] (AI rfl (AI (R5 TV) (R5 TV)))
 refine AI (OL ?_) TV
 obtain ⟨q6_11,hq6_11,q⟩ := bE q
 refine OL (AI f39_in (cV (cQ C39 ((j.1.1,j.1.2),j.2.1,s.1,z2) q6_11 [] true C39_holds hq6_11 rfl rfl (R5 (AI (fun _=>rfl) (R2 (AI TV (AI TV (OL (OL ?_))))))))))
 obtain ⟨r3,hr3,q⟩ := bE q
 refine OL (AI f98_in (cV (cQ C98 ((s.1,s.2),q6_11.2.2.2,(List.length z2:Int),(j.2.2.2.1.1,j.2.2.2.1.2.1,j.2.2.2.1.2.2)) r3 [] true C98_holds hr3 rfl rfl (R6 (AI (fun _=>rfl) (R2 (AI TV (AI TV (OL (OL (EI (.take 0 (.take 1 (.alt 2 (.alt 3 .done .done) .done))) (EI [] (EI [] (AI rfl (AI TV (OL (AI TV (OL ?_))))))))))))))))))
 cases sE q
 refine AI rfl (E4 [(0,some 7),(1,some 8)] (AI rfl (AI (R2 TV) (R2 TV))))
theorem C57_holds : HP C57 57 := hH Tryz.f57 (by kernel_rfl) rfl (fun x y q=>C57_vc x.1 x.2.1 x.2.2 y q)
theorem f57_in : InP 57 := inP (by kernel_rfl)
def f89_l1 (j : (LI×(List (ByteArray×Int×Int)))×Int×Int×(Int×Int×Int)×(List (LI×LI×Int))×LI) (k:Int) (go : (Int×LI×LI) → Option (LI×LI)) (i:Int) (l3 : LI) (l4 : LI) : Option (LI×LI) :=
 bif (decide (i < k)) then
 bindF (f57 ((j.1.1,j.1.2),j.2.1,j.2.2.1,(j.2.2.2.1.1,j.2.2.2.1.2.1,j.2.2.2.1.2.2),j.2.2.2.2.1,j.2.2.2.2.2) (l3,l4) i) fun r5 =>
 go ((i64.wrap (i + (1:Int))),r5.2.2.1,r5.2.2.2)
 else
 some (l3,l4)
def f89 (j : (LI×(List (ByteArray×Int×Int)))×Int×Int×(Int×Int×Int)×(List (LI×LI×Int))×LI) (k:Int) : Option (LI×LI) :=
 bindF (f53 j.2.2.2.2.2) fun r1 =>
 bindF (loopF (fun go x=>f89_l1 j k go x.1 x.2.1 x.2.2) fuelN ((0:Int),r1.1,r1.2)) fun z4 =>
 some (z4.1,z4.2)
def C89 : Con where
 X := ((LI×(List (ByteArray×Int×Int)))×Int×Int×(Int×Int×Int)×(List (LI×LI×Int))×LI)×Int
 Y := LI×LI
 e := 0
 args x := [.dat T12 x.1,.dat T2 x.2]
 hin x := []
 F x := f89 x.1 x.2
 ret y := [.raw true [(.osl 0),(.osl 1)]]
 hout y := [(0,.arr 40 T2 y.1),(1,.arr 40 T2 y.2)]
 nout := 2
theorem C89_vc (j : (LI×(List (ByteArray×Int×Int)))×Int×Int×(Int×Int×Int)×(List (LI×LI×Int))×LI) (k:Int) (y : LI×LI) (q : f89 j k = some y) : VC Tryz.f89 C89 (j,k) y := by
 unfold f89 at q
 refine OL (OL ?_)
 obtain ⟨r1,hr1,q⟩ := bE q
 refine OL (AI f53_in (cV (cQ C53 j.2.2.2.2.2 r1 [] false C53_holds hr1 rfl rfl (AI rfl (K0 (OL (OL (OL ?_))))))))
 obtain ⟨z4,hz4,q⟩ := bE q
 refine lI (Int×LI×LI) (LI×LI) (fun x=>⟨[(1,.dat T2 k),(2,P0 0 0),(4,P0 1 0),(5,P0 2 0),(6,.dat T2 x.1)],[(0,.cells [(.d T1 j.1.1),(.d T8 j.1.2),(.d T2 j.2.1),(.d T2 j.2.2.1),(.d T2 j.2.2.2.1.1),(.d T2 j.2.2.2.1.2.1),(.d T2 j.2.2.2.1.2.2),(.d T11 j.2.2.2.2.1),(.d T1 j.2.2.2.2.2)]),(1,.cells [N0,N0]),(2,.cells [(.osl 3),(.osl 4)]),(3,.arr 40 T2 x.2.1),(4,.arr 40 T2 x.2.2)],5⟩) (fun z=>[(2,⟨[(4,P0 0 0),(5,P0 1 0)],[(0,.cells [N0,N0]),(1,.cells [(.osl 2),(.osl 3)]),(2,.arr 40 T2 z.1),(3,.arr 40 T2 z.2)],4⟩)]) (loopF (fun go x=>f89_l1 j k go x.1 x.2.1 x.2.2)) fuelN ((0:Int),r1.1,r1.2) z4 (AI hz4 (AI (E4 [(0,some 0),(1,some 1),(2,some 4),(3,some 2),(4,some 3)] (R3 (AI (R3 TV) (R5 TV)))) (AI (fun _ _ h=>lZ h) (AI (fun m=>curI (fun i=>curI (fun l3=>fun l4 z q=>?_))) ?_))))
 ·have q : f89_l1 j k (loopF (fun go x=>f89_l1 j k go x.1 x.2.1 x.2.2) m) i l3 l4 = some z := q
  unfold f89_l1 at q
  refine OL (OL (cI q (fun q=>?_) (fun q=>?_)))
  ·refine OL ?_
   obtain ⟨r5,hr5,q⟩ := bE q
   refine OL (AI f57_in (cV (cQ C57 (((j.1.1,j.1.2),j.2.1,j.2.2.1,(j.2.2.2.1.1,j.2.2.2.1.2.1,j.2.2.2.1.2.2),j.2.2.2.2.1,j.2.2.2.2.2),(l3,l4),i) r5 [] true C57_holds hr5 rfl rfl (R5 (AI (fun _=>rfl) (R2 (AI TV (AI TV (OL (EI ((i64.wrap (i + (1:Int))),r5.2.2.1,r5.2.2.2) (AI q (E4 [(0,some 0),(1,some 1),(2,some 2),(3,some 5),(4,some 6)] (R3 (AI (R3 TV) (R5 TV)))))))))))))))
  cases sE q
  refine E4 [(0,some 1),(1,some 2),(2,some 3),(3,some 4)] (AI rfl (AI (R2 TV) (R4 TV)))
 refine AI (OL (OL ?_)) TV
 cases sE q
 refine AI rfl (E4 [(0,some 2),(1,some 3)] (AI rfl (AJ (R2 TV))))
theorem C89_holds : HP C89 89 := hH Tryz.f89 (by kernel_rfl) rfl (fun x y q=>C89_vc x.1 x.2 y q)
theorem f89_in : InP 89 := inP (by kernel_rfl)
def f55 (s : LI×LI) (w : LI×LI) : Option Bool :=
 bindF (f37 s.1 w.1) fun r1 =>
 bif r1 then
 bindF (f37 s.2 w.2) fun r2 =>
 some r2
 else
 some false
def C55 : Con where
 X := (LI×LI)×(LI×LI)
 Y := Bool
 e := 0
 args x := [.dat T3 x.1,.dat T3 x.2]
 hin x := []
 F x := f55 x.1 x.2
 ret y := [.dat .bool y]
 hout y := []
 nout := 0
theorem C55_vc (s : LI×LI) (w : LI×LI) (y : Bool) (q : f55 s w = some y) : VC Tryz.f55 C55 (s,w) y := by
 unfold f55 at q
 refine OL (OL ?_)
 obtain ⟨r1,hr1,q⟩ := bE q
 refine OL (AI f37_in (cV (cQ C37 (s.1,w.1) r1 [] false C37_holds hr1 rfl rfl (R2 (K0 (cI q (fun q=>?_) (fun q=>?_)))))))
 ·refine gX (gX (gX (gX ?_)))
  obtain ⟨r2,hr2,q⟩ := bE q
  refine OL (AI f37_in (cV (cQ C37 (s.2,w.2) r2 [] false C37_holds hr2 rfl rfl (R2 (K0 (cT ?_))))))
  cases sE q
  refine AI rfl (E4 [] (R2 (AI TV TV)))
 refine gM (gM (gM (gM (cF ?_))))
 cases sE q
 refine AI rfl (E4 [] (R2 (AI TV TV)))
theorem C55_holds : HP C55 55 := hH Tryz.f55 (by kernel_rfl) rfl (fun x y q=>C55_vc x.1 x.2 y q)
theorem f55_in : InP 55 := inP (by kernel_rfl)
end Go.Proofs
