import Derived.Test.YtdnlicefpmiljaaGreatDoorModelBackS0
set_option linter.unusedVariables false
set_option maxRecDepth 100000
set_option maxHeartbeats 8000000
namespace Go.Proofs
open Go.AM
open IntKind (i64 u64 i32 u32 i16 u16 i8 u8)
def f197 (x_:Int) (y_:Int) : Option (Int×Int) :=
 some ((u64.wrap ((u64.wrap ((u64.wrap ((Int.fdiv x_ (2 ^ min (Int.toNat (32:Int)) (IntKind.bits IntKind.u64))) * (Int.fdiv y_ (2 ^ min (Int.toNat (32:Int)) (IntKind.bits IntKind.u64))))) + (Int.fdiv (u64.wrap ((u64.wrap ((Int.fdiv x_ (2 ^ min (Int.toNat (32:Int)) (IntKind.bits IntKind.u64))) * (bitsOf IntKind.u64 (fun p q=>p &&& q) y_ (4294967295:Int)))) + (Int.fdiv (u64.wrap ((bitsOf IntKind.u64 (fun p q=>p &&& q) x_ (4294967295:Int)) * (bitsOf IntKind.u64 (fun p q=>p &&& q) y_ (4294967295:Int)))) (2 ^ min (Int.toNat (32:Int)) (IntKind.bits IntKind.u64))))) (2 ^ min (Int.toNat (32:Int)) (IntKind.bits IntKind.u64))))) + (Int.fdiv (u64.wrap ((bitsOf IntKind.u64 (fun p q=>p &&& q) (u64.wrap ((u64.wrap ((Int.fdiv x_ (2 ^ min (Int.toNat (32:Int)) (IntKind.bits IntKind.u64))) * (bitsOf IntKind.u64 (fun p q=>p &&& q) y_ (4294967295:Int)))) + (Int.fdiv (u64.wrap ((bitsOf IntKind.u64 (fun p q=>p &&& q) x_ (4294967295:Int)) * (bitsOf IntKind.u64 (fun p q=>p &&& q) y_ (4294967295:Int)))) (2 ^ min (Int.toNat (32:Int)) (IntKind.bits IntKind.u64))))) (4294967295:Int)) + (u64.wrap ((bitsOf IntKind.u64 (fun p q=>p &&& q) x_ (4294967295:Int)) * (Int.fdiv y_ (2 ^ min (Int.toNat (32:Int)) (IntKind.bits IntKind.u64))))))) (2 ^ min (Int.toNat (32:Int)) (IntKind.bits IntKind.u64))))),(u64.wrap (x_ * y_)))
def C197 : Con where
 X := Int×Int
 Y := Int×Int
 e := 0
 args x := [.dat T10 x.1,.dat T10 x.2]
 hin x := []
 F x := f197 x.1 x.2
 ret y := [.dat T10 y.1,.dat T10 y.2]
 hout y := []
 nout := 0
theorem C197_vc (x_:Int) (y_:Int) (y : Int×Int) (hF : f197 x_ y_ = some y) : VC Tryz.f197 C197 (x_,y_) y := by
 unfold f197 at hF
 refine OL (OL (OL (AI (by decide) (OL (OL (AI (by decide) (OL (OL (AI (by decide) (OL (OL (AI (by decide) (OL (OL (AI (by decide) (OL ?_))))))))))))))))
 have hy := someE hF
 subst hy
 refine AI rfl (E4 [] (R3 (AI TV TV)))
theorem C197_holds : C197.Holds Tryz.prog 197 := holds_of_vc tab_ok mixed (fn := Tryz.f197) (by kernel_rfl) rfl C197 (fun x y hF=>C197_vc x.1 x.2 y hF)
theorem f197_in : InP 197 := ⟨Tryz.f197,by kernel_rfl,by kernel_rfl,by kernel_rfl⟩
def f223 (x_:Int) (y_:Int) : Option (Int×Int) :=
 bindF (f197 x_ y_) fun r1 =>
 some (r1.1,r1.2)
def C223 : Con where
 X := Int×Int
 Y := Int×Int
 e := 0
 args x := [.dat T10 x.1,.dat T10 x.2]
 hin x := []
 F x := f223 x.1 x.2
 ret y := [.dat T10 y.1,.dat T10 y.2]
 hout y := []
 nout := 0
theorem C223_vc (x_:Int) (y_:Int) (y : Int×Int) (hF : f223 x_ y_ = some y) : VC Tryz.f223 C223 (x_,y_) y := by
 unfold f223 at hF
 refine OL (OL (condF (OL ?_)))
 obtain ⟨r1,hr1,hF⟩ := bindE hF
 refine OL (AI f197_in (callV0 (callI C197 (x_,y_) r1 [] false C197_holds hr1 rfl rfl (R2 (AI (fun h=>nomatch h) (R2 (AI TV (AI TV (OL ?_)))))))))
 have hy := someE hF
 subst hy
 refine AI rfl (E4 [] (R3 (AI TV TV)))
theorem C223_holds : C223.Holds Tryz.prog 223 := holds_of_vc tab_ok mixed (fn := Tryz.f223) (by kernel_rfl) rfl C223 (fun x y hF=>C223_vc x.1 x.2 y hF)
theorem f223_in : InP 223 := ⟨Tryz.f223,by kernel_rfl,by kernel_rfl,by kernel_rfl⟩
def f201_j1 (r1 : Int×Int) : Option Unit :=
 bif (decide (r1.1 > (0:Int))) then
 none
 else
 bif (decide (r1.2 > (9223372036854775807:Int))) then
 none
 else
 some ()
def f201_l2 (go : (Int×(List Int)) → Option (List Int)) (n:Int) (l0 : List Int) : Option (List Int) :=
 bif (decide (n < (List.length l0:Int))) then
 guardF (0 ≤ n ∧ n ≤ (List.length l0:Int)) <|
 guardF (0 ≤ n ∧ n ≤ (List.length l0:Int)) <|
 go ((i64.wrap (n + (List.length (List.take (Int.toNat (List.length l0:Int) - Int.toNat n) (List.drop (Int.toNat (0:Int)) (List.take (Int.toNat n) l0))):Int))),(over l0 n (List.take (Int.toNat (List.length l0:Int) - Int.toNat n) (List.drop (Int.toNat (0:Int)) (List.take (Int.toNat n) l0)))))
 else
 some l0
def f201 (x_ : List Int) (count:Int) : Option (List Int) :=
 bif (decide (count < (0:Int))) then
 none
 else
 bindF (f223 (u64.wrap (List.length x_:Int)) (u64.wrap count)) fun r1 =>
 bindF (f201_j1 r1) fun z2 =>
 guardF (0 ≤ (i64.wrap r1.2) ∧ (i64.wrap r1.2) ≤ (i64.wrap r1.2) ∧ Int.toNat (i64.wrap r1.2) * 8 ≤ 140737488355328) <|
 bindF (loopF (fun go x=>f201_l2 go x.1 x.2) fuelN ((List.length (List.take (Int.toNat (List.length (List.replicate (Int.toNat (i64.wrap r1.2)) (0:Int)):Int) - Int.toNat (0:Int)) x_):Int),(over (List.replicate (Int.toNat (i64.wrap r1.2)) (0:Int)) (0:Int) (List.take (Int.toNat (List.length (List.replicate (Int.toNat (i64.wrap r1.2)) (0:Int)):Int) - Int.toNat (0:Int)) x_)))) fun z3 =>
 some z3
def C201 : Con where
 X := (List Int)×Int
 Y := List Int
 e := 0
 args x := [.dat T6 x.1,.dat T1 x.2]
 hin x := []
 F x := f201 x.1 x.2
 ret y := [O0 0]
 hout y := [(0,.arr 57 T1 y)]
 nout := 1
theorem C201_vc (x_ : List Int) (count:Int) (y : List Int) (hF : f201 x_ count = some y) : VC Tryz.f201 C201 (x_,count) y := by
 unfold f201 at hF
 refine OL (OL (OL (condI hF (fun hF=>?_) (fun hF=>?_))))
 ·exact nomatch hF
 refine OL ?_
 obtain ⟨r1,hr1,hF⟩ := bindE hF
 refine OL (AI f223_in (callV0 (callI C223 ((u64.wrap (List.length x_:Int)),(u64.wrap count)) r1 [] false C223_holds hr1 rfl rfl (R2 (AI (fun h=>nomatch h) (R2 (AI TV (AI TV ?_))))))))
 obtain ⟨z2,hz2,hF⟩ := bindE hF
 refine OQ ⟨[(0,⟨[(0,.dat T6 x_),(6,.dat T10 r1.2)],[],0⟩)],?_,?_⟩
 ·have hF := hz2
  clear hz2
  unfold f201_j1 at hF
  refine OL (condN hF (fun hF=>?_) (fun hF=>?_))
  ·refine gdYF (condF (condI hF (fun hF=>?_) (fun hF=>?_)))
   ·exact nomatch hF
   have hz := someE hF
   subst hz
   refine E4 [] (R3 (AI TV TV))
  refine gdNF (condT (condT ?_))
  exact nomatch hF
 refine AI (OL (guardI hF (fun hF=>?_))) TV
 refine OL (OL ?_)
 obtain ⟨z3,hz3,hF⟩ := bindE hF
 refine loopI (Int×(List Int)) (List Int) (fun x=>⟨[(7,O0 0),(8,.dat T1 x.1)],[(0,.arr 57 T1 x.2)],1⟩) (fun z=>[(2,⟨[(7,O0 0)],[(0,.arr 57 T1 z)],1⟩)]) (loopF (fun go x=>f201_l2 go x.1 x.2)) fuelN ((List.length (List.take (Int.toNat (List.length (List.replicate (Int.toNat (i64.wrap r1.2)) (0:Int)):Int) - Int.toNat (0:Int)) x_):Int),(over (List.replicate (Int.toNat (i64.wrap r1.2)) (0:Int)) (0:Int) (List.take (Int.toNat (List.length (List.replicate (Int.toNat (i64.wrap r1.2)) (0:Int)):Int) - Int.toNat (0:Int)) x_))) z3 (AI hz3 (AI (E4 [(0,some 0)] (R2 (AI (AI rfl TV) (AI rfl TV)))) (AI (fun _ _ h=>loopZ h) (AI (fun m=>curI (fun n=>fun l0 z hF=>?_)) ?_))))
 ·have hF : f201_l2 (loopF (fun go x=>f201_l2 go x.1 x.2) m) n l0 = some z := hF
  unfold f201_l2 at hF
  refine OL (OL (condI hF (fun hF=>?_) (fun hF=>?_)))
  ·refine EI (.take 0 (.take 1 (.take 2 (.take 3 (.take 4 (.take 5 (.take 6 (.alt 7 (.take 8 (.take 9 .done)) .done)))))))) (EI [] (EI [] (AI rfl (guardI hF (fun hF=>?_)))))
   refine guardI hF (fun hF=>?_)
   refine AI TV (EI ((i64.wrap (n + (List.length (List.take (Int.toNat (List.length l0:Int) - Int.toNat n) (List.drop (Int.toNat (0:Int)) (List.take (Int.toNat n) l0))):Int))),(over l0 n (List.take (Int.toNat (List.length l0:Int) - Int.toNat n) (List.drop (Int.toNat (0:Int)) (List.take (Int.toNat n) l0))))) (AI hF (E4 [(0,some 0)] (R2 (AI (AI rfl TV) (AI rfl TV))))))
  have hz := someE hF
  subst hz
  refine E4 [(0,some 0)] (AI rfl (AI (AI rfl TV) (AI rfl TV)))
 refine AI (OL ?_) TV
 have hy := someE hF
 subst hy
 refine AI rfl (E4 [(0,some 0)] (AI rfl (AI (AI rfl TV) (AI rfl TV))))
theorem C201_holds : C201.Holds Tryz.prog 201 := holds_of_vc tab_ok mixed (fn := Tryz.f201) (by kernel_rfl) rfl C201 (fun x y hF=>C201_vc x.1 x.2 y hF)
theorem f201_in : InP 201 := ⟨Tryz.f201,by kernel_rfl,by kernel_rfl,by kernel_rfl⟩
def f171 (d : List Int) (v:Int) : Option (Int×(List Int)×(List Int)) :=
 bindF (f65 d) fun r1 =>
 bif (!r1) then
 some ((1:Int),[],[])
 else
 bindF (f61 d) fun r2 =>
 bindF (f117 d) fun r3 =>
 bindF (f201 ([v]) r3) fun r4 =>
 some ((0:Int),r2,r4)
def C171 : Con where
 X := (List Int)×Int
 Y := Int×(List Int)×(List Int)
 e := 0
 args x := [.dat T6 x.1,.dat T1 x.2]
 hin x := []
 F x := f171 x.1 x.2
 ret y := [.raw true [(.osl 0),(.osl 1)],.dat T1 y.1]
 hout y := [(0,.arr 3 T1 y.2.1),(1,.arr 57 T1 y.2.2)]
 nout := 2
theorem C171_vc (d : List Int) (v:Int) (y : Int×(List Int)×(List Int)) (hF : f171 d v = some y) : VC Tryz.f171 C171 (d,v) y := by
 unfold f171 at hF
 refine OL (OL (OL ?_))
 obtain ⟨r1,hr1,hF⟩ := bindE hF
 refine OL (AI f65_in (callV0 (callI C65 d r1 [] false C65_holds hr1 rfl rfl (AI rfl (AI (fun h=>nomatch h) (R2 (AI TV (AI TV (condI hF (fun hF=>?_) (fun hF=>?_))))))))))
 ·refine OL (OL ?_)
  have hy := someE hF
  subst hy
  refine AI rfl (E4 [(0,none),(1,none)] (R2 (AI (AI rfl TV) (R2 TV))))
 refine OL ?_
 obtain ⟨r2,hr2,hF⟩ := bindE hF
 refine OL (AI f61_in (callV0 (callI C61 d r2 [] false C61_holds hr2 rfl rfl (AI rfl (AI (fun h=>nomatch h) (R2 (AI TV (AI TV (OL ?_)))))))))
 obtain ⟨r3,hr3,hF⟩ := bindE hF
 refine OL (AI f117_in (callV0 (callI C117 d r3 [] false C117_holds hr3 rfl rfl (AI rfl (AI (fun h=>nomatch h) (R2 (AI TV (AI TV ?_))))))))
 obtain ⟨r4,hr4,hF⟩ := bindE hF
 refine OL (AI f201_in (callV0 (callI C201 ([v],r3) r4 [] true C201_holds hr4 rfl rfl (R2 (AI (fun _=>rfl) (R2 (AI TV (AI TV (OL ?_)))))))))
 have hy := someE hF
 subst hy
 refine AI rfl (E4 [(0,some 1),(1,some 3)] (R2 (AI (AI rfl TV) (R2 TV))))
theorem C171_holds : C171.Holds Tryz.prog 171 := holds_of_vc tab_ok mixed (fn := Tryz.f171) (by kernel_rfl) rfl C171 (fun x y hF=>C171_vc x.1 x.2 y hF)
theorem f171_in : InP 171 := ⟨Tryz.f171,by kernel_rfl,by kernel_rfl,by kernel_rfl⟩
def f179_l1 (d : List Int) (go : (Int×Int×(List Int)) → Option (List Int)) (n:Int) (i:Int) (l0 : List Int) : Option (List Int) :=
 bif (decide (i ≥ (0:Int))) then
 guardF (0 ≤ i ∧ i < (List.length l0:Int)) <|
 guardF (0 ≤ i ∧ i < (List.length d:Int)) <|
 go ((i64.wrap (n * (rd (0:Int) d i))),(i64.wrap (i - (1:Int))),(List.set l0 (Int.toNat i) n))
 else
 some l0
def f179 (d : List Int) : Option (List Int) :=
 bindF (f65 d) fun r1 =>
 bif (!r1) then
 some ([])
 else
 guardF (0 ≤ (List.length d:Int) ∧ (List.length d:Int) ≤ (List.length d:Int) ∧ Int.toNat (List.length d:Int) * 8 ≤ 140737488355328) <|
 bindF (loopF (fun go x=>f179_l1 d go x.1 x.2.1 x.2.2) fuelN ((1:Int),(i64.wrap ((List.length d:Int) - (1:Int))),(List.replicate (Int.toNat (List.length d:Int)) (0:Int)))) fun z2 =>
 some z2
def C179 : Con where
 X := List Int
 Y := List Int
 e := 0
 args x := [.dat T6 x]
 hin x := []
 F x := f179 x
 ret y := [O0 0]
 hout y := [(0,.arr 3 T1 y)]
 nout := 1
theorem C179_vc (d : List Int) (y : List Int) (hF : f179 d = some y) : VC Tryz.f179 C179 d y := by
 unfold f179 at hF
 refine OL (OL (OL ?_))
 obtain ⟨r1,hr1,hF⟩ := bindE hF
 refine OL (AI f65_in (callV0 (callI C65 d r1 [] false C65_holds hr1 rfl rfl (AI rfl (AI (fun h=>nomatch h) (R2 (AI TV (AI TV (condI hF (fun hF=>?_) (fun hF=>?_))))))))))
 ·refine OL ?_
  have hy := someE hF
  subst hy
  refine AI rfl (E4 [(0,none)] (AI rfl (AI (AI rfl TV) (AI rfl TV))))
 refine OL (guardI hF (fun hF=>?_))
 refine OL (OL (OL ?_))
 obtain ⟨z2,hz2,hF⟩ := bindE hF
 refine loopI (Int×Int×(List Int)) (List Int) (fun x=>⟨[(0,.dat T6 d),(3,O0 0),(4,.dat T1 x.1),(5,.dat T1 x.2.1)],[(0,.arr 3 T1 x.2.2)],1⟩) (fun z=>[(2,⟨[(3,O0 0)],[(0,.arr 3 T1 z)],1⟩)]) (loopF (fun go x=>f179_l1 d go x.1 x.2.1 x.2.2)) fuelN ((1:Int),(i64.wrap ((List.length d:Int) - (1:Int))),(List.replicate (Int.toNat (List.length d:Int)) (0:Int))) z2 (AI hz2 (AI (E4 [(0,some 0)] (R4 (AI (AI rfl TV) (AI rfl TV)))) (AI (fun _ _ h=>loopZ h) (AI (fun m=>curI (fun n=>curI (fun i=>fun l0 z hF=>?_))) ?_))))
 ·have hF : f179_l1 d (loopF (fun go x=>f179_l1 d go x.1 x.2.1 x.2.2) m) n i l0 = some z := hF
  unfold f179_l1 at hF
  refine OL (OL (condI hF (fun hF=>?_) (fun hF=>?_)))
  ·refine OL (OL (guardI hF (fun hF=>?_)))
   refine OL (guardI hF (fun hF=>?_))
   refine EI ((i64.wrap (n * (rd (0:Int) d i))),(i64.wrap (i - (1:Int))),(List.set l0 (Int.toNat i) n)) (AI hF (E4 [(0,some 0)] (R4 (AI (AI rfl TV) (AI rfl TV)))))
  have hz := someE hF
  subst hz
  refine E4 [(0,some 0)] (AI rfl (AI (AI rfl TV) (AI rfl TV)))
 refine AI (OL ?_) TV
 have hy := someE hF
 subst hy
 refine AI rfl (E4 [(0,some 0)] (AI rfl (AI (AI rfl TV) (AI rfl TV))))
theorem C179_holds : C179.Holds Tryz.prog 179 := holds_of_vc tab_ok mixed (fn := Tryz.f179) (by kernel_rfl) rfl C179 (fun x y hF=>C179_vc x y hF)
theorem f179_in : InP 179 := ⟨Tryz.f179,by kernel_rfl,by kernel_rfl,by kernel_rfl⟩
def f196_j13 (d : List Int) (big : List Int) (q11_19 : List Int) (v23:Int) (rest:Int) (i:Int) (l1_2 : List Int) : Option (List Int) :=
 guardF (0 ≤ (i64.wrap (i - (i64.wrap ((List.length big:Int) - (List.length d:Int))))) ∧ (i64.wrap (i - (i64.wrap ((List.length big:Int) - (List.length d:Int))))) < (List.length d:Int)) <|
 bif (decide ((rd (0:Int) d (i64.wrap (i - (i64.wrap ((List.length big:Int) - (List.length d:Int)))))) > (1:Int))) then
 guardF (0 ≤ v23 ∧ v23 < (List.length l1_2:Int)) <|
 guardF (0 ≤ i ∧ i < (List.length big:Int)) <|
 guardF ((rd (0:Int) big i) ≠ 0) <|
 guardF (0 ≤ (i64.wrap (i - (i64.wrap ((List.length big:Int) - (List.length d:Int))))) ∧ (i64.wrap (i - (i64.wrap ((List.length big:Int) - (List.length d:Int))))) < (List.length q11_19:Int)) <|
 guardF (0 ≤ v23 ∧ v23 < (List.length l1_2:Int)) <|
 some (List.set l1_2 (Int.toNat v23) (i64.wrap ((rd (0:Int) l1_2 v23) + (i64.wrap ((Int.tmod rest (rd (0:Int) big i)) * (rd (0:Int) q11_19 (i64.wrap (i - (i64.wrap ((List.length big:Int) - (List.length d:Int)))))))))))
 else
 some l1_2
def f196_l12 (d : List Int) (big : List Int) (q11_19 : List Int) (v23:Int) (go : (Int×Int×(List Int)) → Option (List Int)) (rest:Int) (i:Int) (l1_2 : List Int) : Option (List Int) :=
 bif (decide (i ≥ (i64.wrap ((List.length big:Int) - (List.length d:Int))))) then
 bindF (f196_j13 d big q11_19 v23 rest i l1_2) fun z14 =>
 guardF (0 ≤ i ∧ i < (List.length big:Int)) <|
 guardF ((rd (0:Int) big i) ≠ 0) <|
 go ((i64.wrap (Int.tdiv rest (rd (0:Int) big i))),(i64.wrap (i - (1:Int))),z14)
 else
 some l1_2
def f196_l9 (d : List Int) (big : List Int) (q11_19 : List Int) (r1:Int) (go : (Int×(List Int)) → Option (List Int)) (v23:Int) (l1 : List Int) : Option (List Int) :=
 bif (decide (v23 < (List.length (List.replicate (Int.toNat r1) (0:Int)):Int))) then
 bindF (loopF (fun go x=>f196_l12 d big q11_19 v23 go x.1 x.2.1 x.2.2) fuelN (v23,(i64.wrap ((List.length big:Int) - (1:Int))),l1)) fun z13 =>
 go ((i64.wrap (v23 + (1:Int))),z13)
 else
 some l1
def f196 (d : List Int) (big : List Int) : Option (List Int) :=
 bindF (f179 d) fun q11_19 =>
 bindF (f117 big) fun r1 =>
 guardF (0 ≤ r1 ∧ r1 ≤ r1 ∧ Int.toNat r1 * 8 ≤ 140737488355328) <|
 bindF (loopF (fun go x=>f196_l9 d big q11_19 r1 go x.1 x.2) fuelN ((0:Int),(List.replicate (Int.toNat r1) (0:Int)))) fun z10 =>
 some z10
def C196 : Con where
 X := (List Int)×(List Int)
 Y := List Int
 e := 0
 args x := [.dat T6 x.1,.dat T6 x.2]
 hin x := []
 F x := f196 x.1 x.2
 ret y := [O0 0]
 hout y := [(0,.arr 3 T1 y)]
 nout := 1
theorem C196_vc (d : List Int) (big : List Int) (y : List Int) (hF : f196 d big = some y) : VC Tryz.f196 C196 (d,big) y := by
 unfold f196 at hF
 refine OL (OL ?_)
 obtain ⟨q11_19,hq11_19,hF⟩ := bindE hF
 refine OL (AI f179_in (callV0 (callI C179 d q11_19 [] false C179_holds hq11_19 rfl rfl (AI rfl (AI (fun h=>nomatch h) (R2 (AI TV (AI TV (OL ?_)))))))))
 obtain ⟨r1,hr1,hF⟩ := bindE hF
 refine OL (AI f117_in (callV0 (callI C117 big r1 [] false C117_holds hr1 rfl rfl (AI rfl (AI (fun h=>nomatch h) (R2 (AI TV (AI TV (guardI hF (fun hF=>?_))))))))))
 refine OL (OL ?_)
 obtain ⟨z10,hz10,hF⟩ := bindE hF
 refine loopI (Int×(List Int)) (List Int) (fun x=>⟨[(0,.dat T6 d),(1,.dat T6 big),(5,O0 0),(6,.dat T1 (i64.wrap ((List.length big:Int) - (List.length d:Int)))),(7,O0 1),(22,.dat T1 (List.length (List.replicate (Int.toNat r1) (0:Int)):Int)),(23,.dat T1 x.1)],[(0,.arr 3 T1 q11_19),(1,.arr 3 T1 x.2)],2⟩) (fun z=>[(2,⟨[(7,O0 0)],[(0,.arr 3 T1 z)],1⟩)]) (loopF (fun go x=>f196_l9 d big q11_19 r1 go x.1 x.2)) fuelN ((0:Int),(List.replicate (Int.toNat r1) (0:Int))) z10 (AI hz10 (AI (E4 [(0,some 0),(1,some 1)] (R6 (AI (R2 TV) (R2 TV)))) (AI (fun _ _ h=>loopZ h) (AI (fun m=>curI (fun v23=>fun l1 z hF=>?_)) ?_))))
 ·have hF : f196_l9 d big q11_19 r1 (loopF (fun go x=>f196_l9 d big q11_19 r1 go x.1 x.2) m) v23 l1 = some z := hF
  unfold f196_l9 at hF
  refine OL (OL (condI hF (fun hF=>?_) (fun hF=>?_)))
  ·refine OL (OL (OL (OL ?_)))
   obtain ⟨z13,hz13,hF⟩ := bindE hF
   refine loopI (Int×Int×(List Int)) (List Int) (fun x=>⟨[(0,.dat T6 d),(1,.dat T6 big),(5,O0 0),(6,.dat T1 (i64.wrap ((List.length big:Int) - (List.length d:Int)))),(7,O0 1),(8,.dat T1 v23),(9,.dat T1 x.1),(10,.dat T1 x.2.1),(22,.dat T1 (List.length (List.replicate (Int.toNat r1) (0:Int)):Int)),(23,.dat T1 v23)],[(0,.arr 3 T1 q11_19),(1,.arr 3 T1 x.2.2)],2⟩) (fun z=>[(4,⟨[(0,.dat T6 d),(1,.dat T6 big),(5,O0 0),(6,.dat T1 (i64.wrap ((List.length big:Int) - (List.length d:Int)))),(7,O0 1),(22,.dat T1 (List.length (List.replicate (Int.toNat r1) (0:Int)):Int)),(23,.dat T1 v23)],[(0,.arr 3 T1 q11_19),(1,.arr 3 T1 z)],2⟩)]) (loopF (fun go x=>f196_l12 d big q11_19 v23 go x.1 x.2.1 x.2.2)) fuelN (v23,(i64.wrap ((List.length big:Int) - (1:Int))),l1) z13 (AI hz13 (AI (E4 [(0,some 0),(1,some 1)] (R9 (AI (R2 TV) (R2 TV)))) (AI (fun _ _ h=>loopZ h) (AI (fun m=>curI (fun rest=>curI (fun i=>fun l1_2 z hF=>?_))) ?_))))
   ·have hF : f196_l12 d big q11_19 v23 (loopF (fun go x=>f196_l12 d big q11_19 v23 go x.1 x.2.1 x.2.2) m) rest i l1_2 = some z := hF
    unfold f196_l12 at hF
    refine OL (OL (condI hF (fun hF=>?_) (fun hF=>?_)))
    ·refine OL ?_
     obtain ⟨z14,hz14,hF⟩ := bindE hF
     refine OQ ⟨[(0,⟨[(0,.dat T6 d),(1,.dat T6 big),(5,O0 0),(6,.dat T1 (i64.wrap ((List.length big:Int) - (List.length d:Int)))),(7,O0 1),(8,.dat T1 v23),(9,.dat T1 rest),(10,.dat T1 i),(22,.dat T1 (List.length (List.replicate (Int.toNat r1) (0:Int)):Int)),(23,.dat T1 v23)],[(0,.arr 3 T1 q11_19),(1,.arr 3 T1 z14)],2⟩)],?_,?_⟩
     ·have hF := hz14
      clear hz14
      unfold f196_j13 at hF
      refine OL (guardI hF (fun hF=>?_))
      refine condI hF (fun hF=>?_) (fun hF=>?_)
      ·refine EI (.take 0 (.take 1 (.take 2 (.take 3 (.take 4 (.take 5 (.take 6 (.take 7 (.take 8 (.take 9 (.take 10 (.take 11 (.take 12 (.take 13 (.take 14 (.take 15 (.take 16 (.take 17 (.take 18 (.alt 19 .done .done)))))))))))))))))))) (EI [(19,[1])] (EI [] (AI rfl (guardI hF (fun hF=>?_)))))
       refine guardI hF (fun hF=>?_)
       refine guardI hF (fun hF=>?_)
       refine guardI hF (fun hF=>?_)
       refine guardI hF (fun hF=>?_)
       refine AI TV (OL ?_)
       have hz := someE hF
       subst hz
       refine E4 [(0,some 0),(1,some 1)] (R9 (AI (R2 TV) (R2 TV)))
      have hz := someE hF
      subst hz
      refine E4 [(0,some 0),(1,some 1)] (R9 (AI (R2 TV) (R2 TV)))
     refine AI (guardI hF (fun hF=>?_)) TV
     refine guardI hF (fun hF=>?_)
     refine EI ((i64.wrap (Int.tdiv rest (rd (0:Int) big i))),(i64.wrap (i - (1:Int))),z14) (AI hF (E4 [(0,some 0),(1,some 1)] (R9 (AI (R2 TV) (R2 TV)))))
    have hz := someE hF
    subst hz
    refine E4 [(0,some 0),(1,some 1)] (R6 (AI (R2 TV) (R2 TV)))
   refine AI (EI ((i64.wrap (v23 + (1:Int))),z13) (AI hF (E4 [(0,some 0),(1,some 1)] (R6 (AI (R2 TV) (R2 TV)))))) TV
  have hz := someE hF
  subst hz
  refine E4 [(0,some 1)] (AI rfl (AI (AI rfl TV) (AI rfl TV)))
 refine AI (OL ?_) TV
 have hy := someE hF
 subst hy
 refine AI rfl (E4 [(0,some 0)] (AI rfl (AI (AI rfl TV) (AI rfl TV))))
theorem C196_holds : C196.Holds Tryz.prog 196 := holds_of_vc tab_ok mixed (fn := Tryz.f196) (by kernel_rfl) rfl C196 (fun x y hF=>C196_vc x.1 x.2 y hF)
theorem f196_in : InP 196 := ⟨Tryz.f196,by kernel_rfl,by kernel_rfl,by kernel_rfl⟩
def f167_j1 (a:Int) (b:Int) : Option (Sum Unit Unit) :=
 bif (!((decide (a < (0:Int))) == (decide (b < (0:Int))))) then
 some (Sum.inr ())
 else
 bif ((decide ((i64.wrap (a + b)) < (0:Int))) == (decide (a < (0:Int)))) then
 some (Sum.inr ())
 else
 some (Sum.inl ())
def f167 (a:Int) (b:Int) : Option Int :=
 bindF (f167_j1 a b) fun z1 =>
 sumF z1 (fun z1a =>
 bif (decide (a < (0:Int))) then
 some (-9223372036854775808:Int)
 else
 some (9223372036854775807:Int)) (fun z1b =>
 some (i64.wrap (a + b)))
def C167 : Con where
 X := Int×Int
 Y := Int
 e := 0
 args x := [.dat T1 x.1,.dat T1 x.2]
 hin x := []
 F x := f167 x.1 x.2
 ret y := [.dat T1 y]
 hout y := []
 nout := 0
theorem C167_vc (a:Int) (b:Int) (y:Int) (hF : f167 a b = some y) : VC Tryz.f167 C167 (a,b) y := by
 unfold f167 at hF
 refine OL (OL ?_)
 obtain ⟨z1,hz1,hF⟩ := bindE hF
 refine OQ ⟨Sum.elim (fun z1a=>[(0,⟨[(0,.dat T1 a)],[],0⟩)]) (fun z1b=>[(1,⟨[(4,.dat T1 (i64.wrap (a + b)))],[],0⟩)]) z1,?_,?_⟩
 ·have hF := hz1
  clear hz1
  unfold f167_j1 at hF
  refine OL (condN hF (fun hF=>?_) (fun hF=>?_))
  ·refine gdYF (gdYF (gdYF (gdYF (condF (condI hF (fun hF=>?_) (fun hF=>?_))))))
   ·refine OL ?_
    have hz := someE hF
    subst hz
    refine E4 [] (R2 (AI TV TV))
   have hz := someE hF
   subst hz
   refine E4 [] (R2 (AI TV TV))
  refine gdNF (gdNF (gdNF (gdNF (condT (condT (OL ?_))))))
  have hz := someE hF
  subst hz
  refine E4 [] (R2 (AI TV TV))
 rcases z1 with z1a | z1b
 ·dsimp only [sumF] at hF
  refine AI (OL (OL (condI hF (fun hF=>?_) (fun hF=>?_)))) TV
  ·refine OL ?_
   have hy := someE hF
   subst hy
   refine AI rfl (E4 [] (R2 (AI TV TV)))
  refine OL ?_
  have hy := someE hF
  subst hy
  refine AI rfl (E4 [] (R2 (AI TV TV)))
 dsimp only [sumF] at hF
 refine AI ?_ TV
 have hy := someE hF
 subst hy
 refine AI rfl (E4 [] (R2 (AI TV TV)))
theorem C167_holds : C167.Holds Tryz.prog 167 := holds_of_vc tab_ok mixed (fn := Tryz.f167) (by kernel_rfl) rfl C167 (fun x y hF=>C167_vc x.1 x.2 y hF)
theorem f167_in : InP 167 := ⟨Tryz.f167,by kernel_rfl,by kernel_rfl,by kernel_rfl⟩
def f166_167_j3 (a : (List Int)×(List Int)) (b : (List Int)×(List Int)) : Option Bool :=
 bindF (f91 (a.1,a.2)) fun r9 =>
 bif (!r9) then
 some true
 else
 bindF (f91 (b.1,b.2)) fun r10 =>
 some (!r10)
def f166_167_j2 (a : (List Int)×(List Int)) (b : (List Int)×(List Int)) : Option (Sum Unit Unit) :=
 bindF (f166_167_j3 a b) fun z8 =>
 bif z8 then
 some (Sum.inr ())
 else
 some (Sum.inl ())
def f166_167_l4 (a : (List Int)×(List Int)) (b : (List Int)×(List Int)) (r12 : Int×(List Int)×(List Int)) (q7_3 : List Int) (q7_7 : List Int) (go : (Int×(List Int)) → Option (List Int)) (v52:Int) (l7 : List Int) : Option (List Int) :=
 bif (decide (v52 < (List.length r12.2.2:Int))) then
 guardF (0 ≤ v52 ∧ v52 < (List.length q7_3:Int)) <|
 guardF (0 ≤ (rd (0:Int) q7_3 v52) ∧ (rd (0:Int) q7_3 v52) < (List.length a.2:Int)) <|
 guardF (0 ≤ v52 ∧ v52 < (List.length q7_7:Int)) <|
 guardF (0 ≤ (rd (0:Int) q7_7 v52) ∧ (rd (0:Int) q7_7 v52) < (List.length b.2:Int)) <|
 bindF (f167 (rd (0:Int) a.2 (rd (0:Int) q7_3 v52)) (rd (0:Int) b.2 (rd (0:Int) q7_7 v52))) fun q11_20 =>
 guardF (0 ≤ v52 ∧ v52 < (List.length l7:Int)) <|
 go ((i64.wrap (v52 + (1:Int))),(List.set l7 (Int.toNat v52) q11_20))
 else
 some l7
def f166_167 (a : (List Int)×(List Int)) (b : (List Int)×(List Int)) : Option (Int×(List Int)×(List Int)) :=
 bindF (f166_167_j2 a b) fun z5 =>
 sumF z5 (fun z5a =>
 bindF (f195 a.1 b.1) fun r11 =>
 bif (r11.1 != (0:Int)) then
 some (r11.1,[],[])
 else
 bindF (f171 r11.2 (0:Int)) fun r12 =>
 bindF (f196 a.1 r11.2) fun q7_3 =>
 bindF (f196 b.1 r11.2) fun q7_7 =>
 bindF (loopF (fun go x=>f166_167_l4 a b r12 q7_3 q7_7 go x.1 x.2) fuelN ((0:Int),r12.2.2)) fun z13 =>
 some ((0:Int),r12.2.1,z13)) (fun z5b =>
 some ((1:Int),[],[]))
def C166_167 : Con where
 X := ((List Int)×(List Int))×((List Int)×(List Int))
 Y := Int×(List Int)×(List Int)
 e := 0
 args x := [.dat T9 x.1,.dat T9 x.2,.raw false [(.c (.func (.func 167) #[] #[]))]]
 hin x := []
 F x := f166_167 x.1 x.2
 ret y := [.raw true [(.osl 0),(.osl 1)],.dat T1 y.1]
 hout y := [(0,.arr 3 T1 y.2.1),(1,.arr 57 T1 y.2.2)]
 nout := 2
theorem C166_167_vc (a : (List Int)×(List Int)) (b : (List Int)×(List Int)) (y : Int×(List Int)×(List Int)) (hF : f166_167 a b = some y) : VC Tryz.f166 C166_167 (a,b) y := by
 unfold f166_167 at hF
 refine OL ?_
 obtain ⟨z5,hz5,hF⟩ := bindE hF
 refine OQ ⟨Sum.elim (fun z5a=>[(0,⟨[(2,.raw false [(.c (.func (.func 167) #[] #[]))]),(3,P0 0 0),(4,P0 1 0),(6,P0 2 0)],[(0,.cells [(.d T6 a.1),(.d T6 a.2)]),(1,.cells [(.d T6 b.1),(.d T6 b.2)]),(2,.cells [N0,N0])],3⟩)]) (fun z5b=>[(1,⟨[(6,P0 0 0),(7,D0 1)],[(0,.cells [N0,N0])],1⟩)]) z5,?_,?_⟩
 ·have hF := hz5
  clear hz5
  unfold f166_167_j2 at hF
  obtain ⟨z8,hz8,hF⟩ := bindE hF
  refine OQ ⟨[(0,⟨[(2,.raw false [(.c (.func (.func 167) #[] #[]))]),(3,P0 0 0),(4,P0 1 0),(6,P0 2 0),(22,.dat .bool z8)],[(0,.cells [(.d T6 a.1),(.d T6 a.2)]),(1,.cells [(.d T6 b.1),(.d T6 b.2)]),(2,.cells [N0,N0])],3⟩)],?_,?_⟩
  ·have hF := hz8
   clear hz8
   unfold f166_167_j3 at hF
   obtain ⟨r9,hr9,hF⟩ := bindE hF
   refine OL (AI f91_in (callV0 (callI C91 (a.1,a.2) r9 [] false C91_holds hr9 rfl rfl (R2 (AI (fun h=>nomatch h) (R2 (AI TV (AI TV (condN hF (fun hF=>?_) (fun hF=>?_))))))))))
   ·refine gdYF ?_
    obtain ⟨r10,hr10,hF⟩ := bindE hF
    refine OL (AI f91_in (callV0 (callI C91 (b.1,b.2) r10 [] false C91_holds hr10 rfl rfl (R2 (AI (fun h=>nomatch h) (R2 (AI TV (AI TV (gdYF (condF ?_))))))))))
    have hz := someE hF
    subst hz
    refine E4 [(0,some 0),(1,some 1),(2,some 2)] (R2 (AI (R4 TV) (R3 TV)))
   refine gdNF (gdNF (condT ?_))
   have hz := someE hF
   subst hz
   refine E4 [(0,some 0),(1,some 1),(2,some 2)] (R2 (AI (R4 TV) (R3 TV)))
  refine AI (condI hF (fun hF=>?_) (fun hF=>?_)) TV
  ·refine OL (OL ?_)
   have hz := someE hF
   subst hz
   refine E4 [(0,some 2)] (R2 (AI (AI rfl TV) (AI rfl TV)))
  have hz := someE hF
  subst hz
  refine E4 [(0,some 0),(1,some 1),(2,some 2)] (AI rfl (AI (R4 TV) (R3 TV)))
 rcases z5 with z5a | z5b
 ·dsimp only [sumF] at hF
  refine AI (OL ?_) TV
  obtain ⟨r11,hr11,hF⟩ := bindE hF
  refine OL (AI f195_in (callV0 (callI C195 (a.1,b.1) r11 [] false C195_holds hr11 rfl rfl (R2 (AI (fun h=>nomatch h) (R2 (AI TV (AI TV (OL (OL (condI hF (fun hF=>?_) (fun hF=>?_))))))))))))
  ·refine OL (OL ?_)
   have hy := someE hF
   subst hy
   refine AI rfl (E4 [(0,none),(1,none)] (R2 (AI (AI rfl TV) (R2 TV))))
  refine OL ?_
  obtain ⟨r12,hr12,hF⟩ := bindE hF
  refine OL (AI f171_in (callV0 (callI C171 (r11.2,(0:Int)) r12 [] true C171_holds hr12 rfl rfl (R2 (AI (fun _=>rfl) (R2 (AI TV (AI TV (OL (OL (EI (.take 0 (.take 1 (.take 2 (.take 4 (.take 5 (.take 6 (.alt 3 (.alt 7 (.take 8 (.take 9 .done)) .done) .done))))))) (EI [] (EI [] (AI rfl (AI TV ?_)))))))))))))))
  obtain ⟨q7_3,hq7_3,hF⟩ := bindE hF
  refine OL (AI f196_in (callV0 (callI C196 (a.1,r11.2) q7_3 [] true C196_holds hq7_3 rfl rfl (R2 (AI (fun _=>rfl) (R2 (AI TV (AI TV (AI TV ?_)))))))))
  obtain ⟨q7_7,hq7_7,hF⟩ := bindE hF
  refine OL (AI f196_in (callV0 (callI C196 (b.1,r11.2) q7_7 [] true C196_holds hq7_7 rfl rfl (R2 (AI (fun _=>rfl) (R2 (AI TV (AI TV (OL (OL ?_))))))))))
  obtain ⟨z13,hz13,hF⟩ := bindE hF
  refine loopI (Int×(List Int)) (List Int) (fun x=>⟨[(2,.raw false [(.c (.func (.func 167) #[] #[]))]),(3,P0 0 0),(4,P0 1 0),(6,P0 2 0),(10,P0 3 0),(12,O0 4),(13,O0 5),(51,.dat T1 (List.length r12.2.2:Int)),(52,.dat T1 x.1)],[(0,.cells [(.d T6 a.1),(.d T6 a.2)]),(1,.cells [(.d T6 b.1),(.d T6 b.2)]),(2,.cells [N0,N0]),(3,.cells [(.osl 6),(.osl 7)]),(4,.arr 3 T1 q7_3),(5,.arr 3 T1 q7_7),(6,.arr 3 T1 r12.2.1),(7,.arr 57 T1 x.2)],8⟩) (fun z=>[(2,⟨[(6,P0 0 0),(10,P0 1 0)],[(0,.cells [N0,N0]),(1,.cells [(.osl 2),(.osl 3)]),(2,.arr 3 T1 r12.2.1),(3,.arr 57 T1 z)],4⟩)]) (loopF (fun go x=>f166_167_l4 a b r12 q7_3 q7_7 go x.1 x.2)) fuelN ((0:Int),r12.2.2) z13 (AI hz13 (AI (E4 [(0,some 0),(1,some 1),(2,some 2),(3,some 6),(4,some 7),(5,some 8),(6,some 4),(7,some 5)] (R3 (AI (R7 TV) (R8 TV)))) (AI (fun _ _ h=>loopZ h) (AI (fun m=>curI (fun v52=>fun l7 z hF=>?_)) ?_))))
  ·have hF : f166_167_l4 a b r12 q7_3 q7_7 (loopF (fun go x=>f166_167_l4 a b r12 q7_3 q7_7 go x.1 x.2) m) v52 l7 = some z := hF
   unfold f166_167_l4 at hF
   refine OL (OL (condI hF (fun hF=>?_) (fun hF=>?_)))
   ·refine OL (OL (EI (.take 0 (.take 1 (.take 2 (.take 3 (.take 4 (.take 5 (.take 6 (.take 7 (.take 8 (.take 9 (.take 10 (.take 11 (.take 12 (.take 13 (.take 14 (.take 15 (.take 16 (.take 17 (.take 18 (.take 19 (.alt 20 (.take 21 (.alt 22 .done .done)) .done))))))))))))))))))))) (EI [] (EI [] (AI rfl (guardI hF (fun hF=>?_)))))))
    refine guardI hF (fun hF=>?_)
    refine guardI hF (fun hF=>?_)
    refine guardI hF (fun hF=>?_)
    refine AI TV ?_
    obtain ⟨q11_20,hq11_20,hF⟩ := bindE hF
    refine OL (AI f167_in (callV0 (callI C167 ((rd (0:Int) a.2 (rd (0:Int) q7_3 v52)),(rd (0:Int) b.2 (rd (0:Int) q7_7 v52))) q11_20 [] false C167_holds hq11_20 rfl rfl (R2 (AI (fun h=>nomatch h) (R2 (AI TV (AI TV (guardI hF (fun hF=>?_))))))))))
    refine AI TV (OL (EI ((i64.wrap (v52 + (1:Int))),(List.set l7 (Int.toNat v52) q11_20)) (AI hF (E4 [(0,some 0),(1,some 1),(2,some 2),(3,some 3),(4,some 4),(5,some 5),(6,some 6),(7,some 7)] (R3 (AI (R7 TV) (R8 TV)))))))
   have hz := someE hF
   subst hz
   refine E4 [(0,some 2),(1,some 3),(2,some 6),(3,some 7)] (AI rfl (AI (R2 TV) (R4 TV)))
  refine AI (OL (OL ?_)) TV
  have hy := someE hF
  subst hy
  refine AI rfl (E4 [(0,some 2),(1,some 3)] (R2 (AI (AI rfl TV) (R2 TV))))
 dsimp only [sumF] at hF
 refine AI ?_ TV
 have hy := someE hF
 subst hy
 refine AI rfl (E4 [(0,none),(1,none)] (R2 (AI (AI rfl TV) (R2 TV))))
theorem C166_167_holds : C166_167.Holds Tryz.prog 166 := holds_of_vc tab_ok mixed (fn := Tryz.f166) (by kernel_rfl) rfl C166_167 (fun x y hF=>C166_167_vc x.1 x.2 y hF)
theorem f166_167_in : ∃ fn,Tryz.prog.funcs[166]? = some fn ∧ fn.body.isSome = true ∧ (fn.name == "runtime.NumGoroutine") = false := ⟨Tryz.f166,by kernel_rfl,by kernel_rfl,by kernel_rfl⟩
def f138 (a : (List Int)×(List Int)) (b : (List Int)×(List Int)) : Option (Int×(List Int)×(List Int)) :=
 bindF (f166_167 (a.1,a.2) (b.1,b.2)) fun r1 =>
 some (r1.1,r1.2.1,r1.2.2)
def C138 : Con where
 X := ((List Int)×(List Int))×((List Int)×(List Int))
 Y := Int×(List Int)×(List Int)
 e := 0
 args x := [.dat T9 x.1,.dat T9 x.2]
 hin x := []
 F x := f138 x.1 x.2
 ret y := [.raw true [(.osl 0),(.osl 1)],.dat T1 y.1]
 hout y := [(0,.arr 3 T1 y.2.1),(1,.arr 57 T1 y.2.2)]
 nout := 2
theorem C138_vc (a : (List Int)×(List Int)) (b : (List Int)×(List Int)) (y : Int×(List Int)×(List Int)) (hF : f138 a b = some y) : VC Tryz.f138 C138 (a,b) y := by
 unfold f138 at hF
 refine OL (OL ?_)
 obtain ⟨r1,hr1,hF⟩ := bindE hF
 refine OL (AI f166_167_in (callV0 (callI C166_167 ((a.1,a.2),(b.1,b.2)) r1 [] false C166_167_holds hr1 rfl rfl (R4 (AI (fun h=>nomatch h) (R2 (AI (AI rfl TV) (AI TV (OL ?_)))))))))
 have hy := someE hF
 subst hy
 refine AI rfl (E4 [(0,some 3),(1,some 4)] (R2 (AI (AI rfl TV) (R2 TV))))
theorem C138_holds : C138.Holds Tryz.prog 138 := holds_of_vc tab_ok mixed (fn := Tryz.f138) (by kernel_rfl) rfl C138 (fun x y hF=>C138_vc x.1 x.2 y hF)
theorem f138_in : InP 138 := ⟨Tryz.f138,by kernel_rfl,by kernel_rfl,by kernel_rfl⟩
def f168_j1 (a:Int) (b:Int) : Option (Sum Unit Unit) :=
 bif ((decide (a < (0:Int))) == (decide (b < (0:Int)))) then
 some (Sum.inr ())
 else
 bif ((decide ((i64.wrap (a - b)) < (0:Int))) == (decide (a < (0:Int)))) then
 some (Sum.inr ())
 else
 some (Sum.inl ())
def f168 (a:Int) (b:Int) : Option Int :=
 bindF (f168_j1 a b) fun z1 =>
 sumF z1 (fun z1a =>
 bif (decide (a < (0:Int))) then
 some (-9223372036854775808:Int)
 else
 some (9223372036854775807:Int)) (fun z1b =>
 some (i64.wrap (a - b)))
def C168 : Con where
 X := Int×Int
 Y := Int
 e := 0
 args x := [.dat T1 x.1,.dat T1 x.2]
 hin x := []
 F x := f168 x.1 x.2
 ret y := [.dat T1 y]
 hout y := []
 nout := 0
theorem C168_vc (a:Int) (b:Int) (y:Int) (hF : f168 a b = some y) : VC Tryz.f168 C168 (a,b) y := by
 unfold f168 at hF
 refine OL (OL ?_)
 obtain ⟨z1,hz1,hF⟩ := bindE hF
 refine OQ ⟨Sum.elim (fun z1a=>[(0,⟨[(0,.dat T1 a)],[],0⟩)]) (fun z1b=>[(1,⟨[(4,.dat T1 (i64.wrap (a - b)))],[],0⟩)]) z1,?_,?_⟩
 ·have hF := hz1
  clear hz1
  unfold f168_j1 at hF
  refine OL (condN hF (fun hF=>?_) (fun hF=>?_))
  ·refine gdYF (gdYF (gdYF (gdYF (condF (condI hF (fun hF=>?_) (fun hF=>?_))))))
   ·refine OL ?_
    have hz := someE hF
    subst hz
    refine E4 [] (R2 (AI TV TV))
   have hz := someE hF
   subst hz
   refine E4 [] (R2 (AI TV TV))
  refine gdNF (gdNF (gdNF (gdNF (condT (condT (OL ?_))))))
  have hz := someE hF
  subst hz
  refine E4 [] (R2 (AI TV TV))
 rcases z1 with z1a | z1b
 ·dsimp only [sumF] at hF
  refine AI (OL (OL (condI hF (fun hF=>?_) (fun hF=>?_)))) TV
  ·refine OL ?_
   have hy := someE hF
   subst hy
   refine AI rfl (E4 [] (R2 (AI TV TV)))
  refine OL ?_
  have hy := someE hF
  subst hy
  refine AI rfl (E4 [] (R2 (AI TV TV)))
 dsimp only [sumF] at hF
 refine AI ?_ TV
 have hy := someE hF
 subst hy
 refine AI rfl (E4 [] (R2 (AI TV TV)))
theorem C168_holds : C168.Holds Tryz.prog 168 := holds_of_vc tab_ok mixed (fn := Tryz.f168) (by kernel_rfl) rfl C168 (fun x y hF=>C168_vc x.1 x.2 y hF)
theorem f168_in : InP 168 := ⟨Tryz.f168,by kernel_rfl,by kernel_rfl,by kernel_rfl⟩
def f166_168_j3 (a : (List Int)×(List Int)) (b : (List Int)×(List Int)) : Option Bool :=
 bindF (f91 (a.1,a.2)) fun r9 =>
 bif (!r9) then
 some true
 else
 bindF (f91 (b.1,b.2)) fun r10 =>
 some (!r10)
def f166_168_j2 (a : (List Int)×(List Int)) (b : (List Int)×(List Int)) : Option (Sum Unit Unit) :=
 bindF (f166_168_j3 a b) fun z8 =>
 bif z8 then
 some (Sum.inr ())
 else
 some (Sum.inl ())
def f166_168_l4 (a : (List Int)×(List Int)) (b : (List Int)×(List Int)) (r12 : Int×(List Int)×(List Int)) (q7_3 : List Int) (q7_7 : List Int) (go : (Int×(List Int)) → Option (List Int)) (v52:Int) (l7 : List Int) : Option (List Int) :=
 bif (decide (v52 < (List.length r12.2.2:Int))) then
 guardF (0 ≤ v52 ∧ v52 < (List.length q7_3:Int)) <|
 guardF (0 ≤ (rd (0:Int) q7_3 v52) ∧ (rd (0:Int) q7_3 v52) < (List.length a.2:Int)) <|
 guardF (0 ≤ v52 ∧ v52 < (List.length q7_7:Int)) <|
 guardF (0 ≤ (rd (0:Int) q7_7 v52) ∧ (rd (0:Int) q7_7 v52) < (List.length b.2:Int)) <|
 bindF (f168 (rd (0:Int) a.2 (rd (0:Int) q7_3 v52)) (rd (0:Int) b.2 (rd (0:Int) q7_7 v52))) fun q11_20 =>
 guardF (0 ≤ v52 ∧ v52 < (List.length l7:Int)) <|
 go ((i64.wrap (v52 + (1:Int))),(List.set l7 (Int.toNat v52) q11_20))
 else
 some l7
def f166_168 (a : (List Int)×(List Int)) (b : (List Int)×(List Int)) : Option (Int×(List Int)×(List Int)) :=
 bindF (f166_168_j2 a b) fun z5 =>
 sumF z5 (fun z5a =>
 bindF (f195 a.1 b.1) fun r11 =>
 bif (r11.1 != (0:Int)) then
 some (r11.1,[],[])
 else
 bindF (f171 r11.2 (0:Int)) fun r12 =>
 bindF (f196 a.1 r11.2) fun q7_3 =>
 bindF (f196 b.1 r11.2) fun q7_7 =>
 bindF (loopF (fun go x=>f166_168_l4 a b r12 q7_3 q7_7 go x.1 x.2) fuelN ((0:Int),r12.2.2)) fun z13 =>
 some ((0:Int),r12.2.1,z13)) (fun z5b =>
 some ((1:Int),[],[]))
def C166_168 : Con where
 X := ((List Int)×(List Int))×((List Int)×(List Int))
 Y := Int×(List Int)×(List Int)
 e := 0
 args x := [.dat T9 x.1,.dat T9 x.2,.raw false [(.c (.func (.func 168) #[] #[]))]]
 hin x := []
 F x := f166_168 x.1 x.2
 ret y := [.raw true [(.osl 0),(.osl 1)],.dat T1 y.1]
 hout y := [(0,.arr 3 T1 y.2.1),(1,.arr 57 T1 y.2.2)]
 nout := 2
theorem C166_168_vc (a : (List Int)×(List Int)) (b : (List Int)×(List Int)) (y : Int×(List Int)×(List Int)) (hF : f166_168 a b = some y) : VC Tryz.f166 C166_168 (a,b) y := by
 unfold f166_168 at hF
 refine OL ?_
 obtain ⟨z5,hz5,hF⟩ := bindE hF
 refine OQ ⟨Sum.elim (fun z5a=>[(0,⟨[(2,.raw false [(.c (.func (.func 168) #[] #[]))]),(3,P0 0 0),(4,P0 1 0),(6,P0 2 0)],[(0,.cells [(.d T6 a.1),(.d T6 a.2)]),(1,.cells [(.d T6 b.1),(.d T6 b.2)]),(2,.cells [N0,N0])],3⟩)]) (fun z5b=>[(1,⟨[(6,P0 0 0),(7,D0 1)],[(0,.cells [N0,N0])],1⟩)]) z5,?_,?_⟩
 ·have hF := hz5
  clear hz5
  unfold f166_168_j2 at hF
  obtain ⟨z8,hz8,hF⟩ := bindE hF
  refine OQ ⟨[(0,⟨[(2,.raw false [(.c (.func (.func 168) #[] #[]))]),(3,P0 0 0),(4,P0 1 0),(6,P0 2 0),(22,.dat .bool z8)],[(0,.cells [(.d T6 a.1),(.d T6 a.2)]),(1,.cells [(.d T6 b.1),(.d T6 b.2)]),(2,.cells [N0,N0])],3⟩)],?_,?_⟩
  ·have hF := hz8
   clear hz8
   unfold f166_168_j3 at hF
   obtain ⟨r9,hr9,hF⟩ := bindE hF
   refine OL (AI f91_in (callV0 (callI C91 (a.1,a.2) r9 [] false C91_holds hr9 rfl rfl (R2 (AI (fun h=>nomatch h) (R2 (AI TV (AI TV (condN hF (fun hF=>?_) (fun hF=>?_))))))))))
   ·refine gdYF ?_
    obtain ⟨r10,hr10,hF⟩ := bindE hF
    refine OL (AI f91_in (callV0 (callI C91 (b.1,b.2) r10 [] false C91_holds hr10 rfl rfl (R2 (AI (fun h=>nomatch h) (R2 (AI TV (AI TV (gdYF (condF ?_))))))))))
    have hz := someE hF
    subst hz
    refine E4 [(0,some 0),(1,some 1),(2,some 2)] (R2 (AI (R4 TV) (R3 TV)))
   refine gdNF (gdNF (condT ?_))
   have hz := someE hF
   subst hz
   refine E4 [(0,some 0),(1,some 1),(2,some 2)] (R2 (AI (R4 TV) (R3 TV)))
  refine AI (condI hF (fun hF=>?_) (fun hF=>?_)) TV
  ·refine OL (OL ?_)
   have hz := someE hF
   subst hz
   refine E4 [(0,some 2)] (R2 (AI (AI rfl TV) (AI rfl TV)))
  have hz := someE hF
  subst hz
  refine E4 [(0,some 0),(1,some 1),(2,some 2)] (AI rfl (AI (R4 TV) (R3 TV)))
 rcases z5 with z5a | z5b
 ·dsimp only [sumF] at hF
  refine AI (OL ?_) TV
  obtain ⟨r11,hr11,hF⟩ := bindE hF
  refine OL (AI f195_in (callV0 (callI C195 (a.1,b.1) r11 [] false C195_holds hr11 rfl rfl (R2 (AI (fun h=>nomatch h) (R2 (AI TV (AI TV (OL (OL (condI hF (fun hF=>?_) (fun hF=>?_))))))))))))
  ·refine OL (OL ?_)
   have hy := someE hF
   subst hy
   refine AI rfl (E4 [(0,none),(1,none)] (R2 (AI (AI rfl TV) (R2 TV))))
  refine OL ?_
  obtain ⟨r12,hr12,hF⟩ := bindE hF
  refine OL (AI f171_in (callV0 (callI C171 (r11.2,(0:Int)) r12 [] true C171_holds hr12 rfl rfl (R2 (AI (fun _=>rfl) (R2 (AI TV (AI TV (OL (OL (EI (.take 0 (.take 1 (.take 2 (.take 4 (.take 5 (.take 6 (.alt 3 (.alt 7 (.take 8 (.take 9 .done)) .done) .done))))))) (EI [] (EI [] (AI rfl (AI TV ?_)))))))))))))))
  obtain ⟨q7_3,hq7_3,hF⟩ := bindE hF
  refine OL (AI f196_in (callV0 (callI C196 (a.1,r11.2) q7_3 [] true C196_holds hq7_3 rfl rfl (R2 (AI (fun _=>rfl) (R2 (AI TV (AI TV (AI TV ?_)))))))))
  obtain ⟨q7_7,hq7_7,hF⟩ := bindE hF
  refine OL (AI f196_in (callV0 (callI C196 (b.1,r11.2) q7_7 [] true C196_holds hq7_7 rfl rfl (R2 (AI (fun _=>rfl) (R2 (AI TV (AI TV (OL (OL ?_))))))))))
  obtain ⟨z13,hz13,hF⟩ := bindE hF
  refine loopI (Int×(List Int)) (List Int) (fun x=>⟨[(2,.raw false [(.c (.func (.func 168) #[] #[]))]),(3,P0 0 0),(4,P0 1 0),(6,P0 2 0),(10,P0 3 0),(12,O0 4),(13,O0 5),(51,.dat T1 (List.length r12.2.2:Int)),(52,.dat T1 x.1)],[(0,.cells [(.d T6 a.1),(.d T6 a.2)]),(1,.cells [(.d T6 b.1),(.d T6 b.2)]),(2,.cells [N0,N0]),(3,.cells [(.osl 6),(.osl 7)]),(4,.arr 3 T1 q7_3),(5,.arr 3 T1 q7_7),(6,.arr 3 T1 r12.2.1),(7,.arr 57 T1 x.2)],8⟩) (fun z=>[(2,⟨[(6,P0 0 0),(10,P0 1 0)],[(0,.cells [N0,N0]),(1,.cells [(.osl 2),(.osl 3)]),(2,.arr 3 T1 r12.2.1),(3,.arr 57 T1 z)],4⟩)]) (loopF (fun go x=>f166_168_l4 a b r12 q7_3 q7_7 go x.1 x.2)) fuelN ((0:Int),r12.2.2) z13 (AI hz13 (AI (E4 [(0,some 0),(1,some 1),(2,some 2),(3,some 6),(4,some 7),(5,some 8),(6,some 4),(7,some 5)] (R3 (AI (R7 TV) (R8 TV)))) (AI (fun _ _ h=>loopZ h) (AI (fun m=>curI (fun v52=>fun l7 z hF=>?_)) ?_))))
  ·have hF : f166_168_l4 a b r12 q7_3 q7_7 (loopF (fun go x=>f166_168_l4 a b r12 q7_3 q7_7 go x.1 x.2) m) v52 l7 = some z := hF
   unfold f166_168_l4 at hF
   refine OL (OL (condI hF (fun hF=>?_) (fun hF=>?_)))
   ·refine OL (OL (EI (.take 0 (.take 1 (.take 2 (.take 3 (.take 4 (.take 5 (.take 6 (.take 7 (.take 8 (.take 9 (.take 10 (.take 11 (.take 12 (.take 13 (.take 14 (.take 15 (.take 16 (.take 17 (.take 18 (.take 19 (.alt 20 (.take 21 (.alt 22 .done .done)) .done))))))))))))))))))))) (EI [] (EI [] (AI rfl (guardI hF (fun hF=>?_)))))))
    refine guardI hF (fun hF=>?_)
    refine guardI hF (fun hF=>?_)
    refine guardI hF (fun hF=>?_)
    refine AI TV ?_
    obtain ⟨q11_20,hq11_20,hF⟩ := bindE hF
    refine OL (AI f168_in (callV0 (callI C168 ((rd (0:Int) a.2 (rd (0:Int) q7_3 v52)),(rd (0:Int) b.2 (rd (0:Int) q7_7 v52))) q11_20 [] false C168_holds hq11_20 rfl rfl (R2 (AI (fun h=>nomatch h) (R2 (AI TV (AI TV (guardI hF (fun hF=>?_))))))))))
    refine AI TV (OL (EI ((i64.wrap (v52 + (1:Int))),(List.set l7 (Int.toNat v52) q11_20)) (AI hF (E4 [(0,some 0),(1,some 1),(2,some 2),(3,some 3),(4,some 4),(5,some 5),(6,some 6),(7,some 7)] (R3 (AI (R7 TV) (R8 TV)))))))
   have hz := someE hF
   subst hz
   refine E4 [(0,some 2),(1,some 3),(2,some 6),(3,some 7)] (AI rfl (AI (R2 TV) (R4 TV)))
  refine AI (OL (OL ?_)) TV
  have hy := someE hF
  subst hy
  refine AI rfl (E4 [(0,some 2),(1,some 3)] (R2 (AI (AI rfl TV) (R2 TV))))
 dsimp only [sumF] at hF
 refine AI ?_ TV
 have hy := someE hF
 subst hy
 refine AI rfl (E4 [(0,none),(1,none)] (R2 (AI (AI rfl TV) (R2 TV))))
theorem C166_168_holds : C166_168.Holds Tryz.prog 166 := holds_of_vc tab_ok mixed (fn := Tryz.f166) (by kernel_rfl) rfl C166_168 (fun x y hF=>C166_168_vc x.1 x.2 y hF)
theorem f166_168_in : ∃ fn,Tryz.prog.funcs[166]? = some fn ∧ fn.body.isSome = true ∧ (fn.name == "runtime.NumGoroutine") = false := ⟨Tryz.f166,by kernel_rfl,by kernel_rfl,by kernel_rfl⟩
def f139 (a : (List Int)×(List Int)) (b : (List Int)×(List Int)) : Option (Int×(List Int)×(List Int)) :=
 bindF (f166_168 (a.1,a.2) (b.1,b.2)) fun r1 =>
 some (r1.1,r1.2.1,r1.2.2)
def C139 : Con where
 X := ((List Int)×(List Int))×((List Int)×(List Int))
 Y := Int×(List Int)×(List Int)
 e := 0
 args x := [.dat T9 x.1,.dat T9 x.2]
 hin x := []
 F x := f139 x.1 x.2
 ret y := [.raw true [(.osl 0),(.osl 1)],.dat T1 y.1]
 hout y := [(0,.arr 3 T1 y.2.1),(1,.arr 57 T1 y.2.2)]
 nout := 2
theorem C139_vc (a : (List Int)×(List Int)) (b : (List Int)×(List Int)) (y : Int×(List Int)×(List Int)) (hF : f139 a b = some y) : VC Tryz.f139 C139 (a,b) y := by
 unfold f139 at hF
 refine OL (OL ?_)
 obtain ⟨r1,hr1,hF⟩ := bindE hF
 refine OL (AI f166_168_in (callV0 (callI C166_168 ((a.1,a.2),(b.1,b.2)) r1 [] false C166_168_holds hr1 rfl rfl (R4 (AI (fun h=>nomatch h) (R2 (AI (AI rfl TV) (AI TV (OL ?_)))))))))
 have hy := someE hF
 subst hy
 refine AI rfl (E4 [(0,some 3),(1,some 4)] (R2 (AI (AI rfl TV) (R2 TV))))
theorem C139_holds : C139.Holds Tryz.prog 139 := holds_of_vc tab_ok mixed (fn := Tryz.f139) (by kernel_rfl) rfl C139 (fun x y hF=>C139_vc x.1 x.2 y hF)
theorem f139_in : InP 139 := ⟨Tryz.f139,by kernel_rfl,by kernel_rfl,by kernel_rfl⟩
def f198 (v:Int) : Option Int :=
 bif (decide (v < (0:Int))) then
 some (u64.wrap (0 - (u64.wrap v)))
 else
 some (u64.wrap v)
def C198 : Con where
 X := Int
 Y := Int
 e := 0
 args x := [.dat T1 x]
 hin x := []
 F x := f198 x
 ret y := [.dat T10 y]
 hout y := []
 nout := 0
theorem C198_vc (v:Int) (y:Int) (hF : f198 v = some y) : VC Tryz.f198 C198 v y := by
 unfold f198 at hF
 refine OL (OL (OL (condI hF (fun hF=>?_) (fun hF=>?_))))
 ·refine OL ?_
  have hy := someE hF
  subst hy
  refine AI rfl (E4 [] (R2 (AI TV TV)))
 refine OL ?_
 have hy := someE hF
 subst hy
 refine AI rfl (E4 [] (R2 (AI TV TV)))
theorem C198_holds : C198.Holds Tryz.prog 198 := holds_of_vc tab_ok mixed (fn := Tryz.f198) (by kernel_rfl) rfl C198 (fun x y hF=>C198_vc x y hF)
theorem f198_in : InP 198 := ⟨Tryz.f198,by kernel_rfl,by kernel_rfl,by kernel_rfl⟩
def f200_j1 (hi:Int) (lo:Int) (below : Bool) : Option Bool :=
 bif below then
 bif (decide (hi > (0:Int))) then
 some true
 else
 some (decide (lo ≥ (9223372036854775808:Int)))
 else
 some false
def f200 (hi:Int) (lo:Int) (below : Bool) : Option Int :=
 bindF (f200_j1 hi lo below) fun z1 =>
 bif z1 then
 some (-9223372036854775808:Int)
 else
 bif below then
 some (i64.wrap (0 - (i64.wrap lo)))
 else
 bif (decide (hi > (0:Int))) then
 some (9223372036854775807:Int)
 else
 bif (decide (lo ≥ (9223372036854775808:Int))) then
 some (9223372036854775807:Int)
 else
 some (i64.wrap lo)
def C200 : Con where
 X := Int×Int×Bool
 Y := Int
 e := 0
 args x := [.dat T10 x.1,.dat T10 x.2.1,.dat .bool x.2.2]
 hin x := []
 F x := f200 x.1 x.2.1 x.2.2
 ret y := [.dat T1 y]
 hout y := []
 nout := 0
theorem C200_vc (hi:Int) (lo:Int) (below : Bool) (y:Int) (hF : f200 hi lo below = some y) : VC Tryz.f200 C200 (hi,lo,below) y := by
 unfold f200 at hF
 refine OL (OL ?_)
 obtain ⟨z1,hz1,hF⟩ := bindE hF
 refine OQ ⟨[(0,⟨[(0,.dat T10 hi),(1,.dat T10 lo),(2,.dat .bool below),(7,.dat .bool z1)],[],0⟩)],?_,?_⟩
 ·have hF := hz1
  clear hz1
  unfold f200_j1 at hF
  refine condI hF (fun hF=>?_) (fun hF=>?_)
  ·refine gdYT (gdYT (condN hF (fun hF=>?_) (fun hF=>?_)))
   ·refine gdYF (gdYT (condF (condT ?_)))
    have hz := someE hF
    subst hz
    refine E4 [] (R5 (AI TV TV))
   refine gdNF (gdYT (condT (condT ?_)))
   have hz := someE hF
   subst hz
   refine E4 [] (R5 (AI TV TV))
  refine gdNT (gdNT (gdNT (condF ?_)))
  have hz := someE hF
  subst hz
  refine E4 [] (R5 (AI TV TV))
 refine AI (condI hF (fun hF=>?_) (fun hF=>?_)) TV
 ·refine OL ?_
  have hy := someE hF
  subst hy
  refine AI rfl (E4 [] (R2 (AI TV TV)))
 refine OL (condI hF (fun hF=>?_) (fun hF=>?_))
 ·refine OL ?_
  have hy := someE hF
  subst hy
  refine AI rfl (E4 [] (R2 (AI TV TV)))
 refine OL (condN hF (fun hF=>?_) (fun hF=>?_))
 ·refine gdYF (condF (condI hF (fun hF=>?_) (fun hF=>?_)))
  ·refine OL ?_
   have hy := someE hF
   subst hy
   refine AI rfl (E4 [] (R2 (AI TV TV)))
  refine OL ?_
  have hy := someE hF
  subst hy
  refine AI rfl (E4 [] (R2 (AI TV TV)))
 refine gdNF (condT (condT (OL ?_)))
 have hy := someE hF
 subst hy
 refine AI rfl (E4 [] (R2 (AI TV TV)))
theorem C200_holds : C200.Holds Tryz.prog 200 := holds_of_vc tab_ok mixed (fn := Tryz.f200) (by kernel_rfl) rfl C200 (fun x y hF=>C200_vc x.1 x.2.1 x.2.2 y hF)
theorem f200_in : InP 200 := ⟨Tryz.f200,by kernel_rfl,by kernel_rfl,by kernel_rfl⟩
def f169_j3 (r3 : Int×Int) : Option Bool :=
 bif (decide ((bitsOf IntKind.u64 (fun p q=>p &&& q) r3.2 (4294967295:Int)) > (2147483648:Int))) then
 some true
 else
 bif ((bitsOf IntKind.u64 (fun p q=>p &&& q) r3.2 (4294967295:Int)) == (2147483648:Int)) then
 some ((bitsOf IntKind.u64 (fun p q=>p &&& q) (bitsOf IntKind.u64 (fun p q=>p ||| q) (u64.wrap (r3.1 * 2 ^ min (Int.toNat (32:Int)) (IntKind.bits IntKind.u64))) (Int.fdiv r3.2 (2 ^ min (Int.toNat (32:Int)) (IntKind.bits IntKind.u64)))) (1:Int)) == (1:Int))
 else
 some false
def f169_j2 (r3 : Int×Int) : Option (Int×Int) :=
 bindF (f169_j3 r3) fun z7 =>
 bif z7 then
 bindF (add64 (bitsOf IntKind.u64 (fun p q=>p ||| q) (u64.wrap (r3.1 * 2 ^ min (Int.toNat (32:Int)) (IntKind.bits IntKind.u64))) (Int.fdiv r3.2 (2 ^ min (Int.toNat (32:Int)) (IntKind.bits IntKind.u64)))) (1:Int) (0:Int)) fun r8 =>
 some (r8.1,(u64.wrap ((Int.fdiv r3.1 (2 ^ min (Int.toNat (32:Int)) (IntKind.bits IntKind.u64))) + r8.2)))
 else
 some ((bitsOf IntKind.u64 (fun p q=>p ||| q) (u64.wrap (r3.1 * 2 ^ min (Int.toNat (32:Int)) (IntKind.bits IntKind.u64))) (Int.fdiv r3.2 (2 ^ min (Int.toNat (32:Int)) (IntKind.bits IntKind.u64)))),(Int.fdiv r3.1 (2 ^ min (Int.toNat (32:Int)) (IntKind.bits IntKind.u64))))
def f169 (a:Int) (b:Int) : Option Int :=
 bindF (f198 a) fun r1 =>
 bindF (f198 b) fun r2 =>
 bindF (f197 r1 r2) fun r3 =>
 bindF (f169_j2 r3) fun z6 =>
 bindF (f200 z6.2 z6.1 (!((decide (a < (0:Int))) == (decide (b < (0:Int)))))) fun r9 =>
 some r9
def C169 : Con where
 X := Int×Int
 Y := Int
 e := 0
 args x := [.dat T1 x.1,.dat T1 x.2]
 hin x := []
 F x := f169 x.1 x.2
 ret y := [.dat T1 y]
 hout y := []
 nout := 0
theorem C169_vc (a:Int) (b:Int) (y:Int) (hF : f169 a b = some y) : VC Tryz.f169 C169 (a,b) y := by
 unfold f169 at hF
 refine OL (OL ?_)
 obtain ⟨r1,hr1,hF⟩ := bindE hF
 refine OL (AI f198_in (callV0 (callI C198 a r1 [] false C198_holds hr1 rfl rfl (AI rfl (AI (fun h=>nomatch h) (R2 (AI TV (AI TV ?_))))))))
 obtain ⟨r2,hr2,hF⟩ := bindE hF
 refine OL (AI f198_in (callV0 (callI C198 b r2 [] false C198_holds hr2 rfl rfl (AI rfl (AI (fun h=>nomatch h) (R2 (AI TV (AI TV ?_))))))))
 obtain ⟨r3,hr3,hF⟩ := bindE hF
 refine OL (AI f197_in (callV0 (callI C197 (r1,r2) r3 [] false C197_holds hr3 rfl rfl (R2 (AI (fun h=>nomatch h) (R2 (AI TV (AI TV (OL (OL (AI (by decide) (AI (by decide) (OL (AI (by decide) ?_))))))))))))))
 obtain ⟨z6,hz6,hF⟩ := bindE hF
 refine OQ ⟨[(0,⟨[(0,.dat T1 a),(1,.dat T1 b),(8,.dat T10 z6.1),(9,.dat T10 z6.2)],[],0⟩)],?_,?_⟩
 ·have hF := hz6
  clear hz6
  unfold f169_j2 at hF
  obtain ⟨z7,hz7,hF⟩ := bindE hF
  refine OQ ⟨[(0,⟨[(0,.dat T1 a),(1,.dat T1 b),(8,.dat T10 (bitsOf IntKind.u64 (fun p q=>p ||| q) (u64.wrap (r3.1 * 2 ^ min (Int.toNat (32:Int)) (IntKind.bits IntKind.u64))) (Int.fdiv r3.2 (2 ^ min (Int.toNat (32:Int)) (IntKind.bits IntKind.u64))))),(9,.dat T10 (Int.fdiv r3.1 (2 ^ min (Int.toNat (32:Int)) (IntKind.bits IntKind.u64)))),(38,.dat .bool z7)],[],0⟩)],?_,?_⟩
  ·have hF := hz7
   clear hz7
   unfold f169_j3 at hF
   refine condN hF (fun hF=>?_) (fun hF=>?_)
   ·refine gdYF (gdYF (condI hF (fun hF=>?_) (fun hF=>?_)))
    ·refine gdYT (gdYT (gdYF (condT (condF ?_))))
     have hz := someE hF
     subst hz
     refine E4 [] (R6 (AI TV TV))
    refine gdNT (gdNT (gdYF (condF (condF ?_))))
    have hz := someE hF
    subst hz
    refine E4 [] (R6 (AI TV TV))
   refine gdNF (gdNF (gdNF (condT ?_)))
   have hz := someE hF
   subst hz
   refine E4 [] (R6 (AI TV TV))
  refine AI (condI hF (fun hF=>?_) (fun hF=>?_)) TV
  ·refine OL (OL ?_)
   obtain ⟨r8,hr8,hF⟩ := bindE hF
   refine OQ ⟨ext3 add64,[r8.1,r8.2],add64_ok,AI (ext3I hr8) ?_⟩
   have hz := someE hF
   subst hz
   refine E4 [] (R5 (AI TV TV))
  have hz := someE hF
  subst hz
  refine E4 [] (R5 (AI TV TV))
 refine AI (OL ?_) TV
 obtain ⟨r9,hr9,hF⟩ := bindE hF
 refine OL (AI f200_in (callV0 (callI C200 (z6.2,z6.1,(!((decide (a < (0:Int))) == (decide (b < (0:Int)))))) r9 [] false C200_holds hr9 rfl rfl (R3 (AI (fun h=>nomatch h) (R2 (AI TV (AI TV ?_))))))))
 have hy := someE hF
 subst hy
 refine AI rfl (E4 [] (R2 (AI TV TV)))
theorem C169_holds : C169.Holds Tryz.prog 169 := holds_of_vc tab_ok mixed (fn := Tryz.f169) (by kernel_rfl) rfl C169 (fun x y hF=>C169_vc x.1 x.2 y hF)
theorem f169_in : InP 169 := ⟨Tryz.f169,by kernel_rfl,by kernel_rfl,by kernel_rfl⟩
def f166_169_j3 (a : (List Int)×(List Int)) (b : (List Int)×(List Int)) : Option Bool :=
 bindF (f91 (a.1,a.2)) fun r9 =>
 bif (!r9) then
 some true
 else
 bindF (f91 (b.1,b.2)) fun r10 =>
 some (!r10)
def f166_169_j2 (a : (List Int)×(List Int)) (b : (List Int)×(List Int)) : Option (Sum Unit Unit) :=
 bindF (f166_169_j3 a b) fun z8 =>
 bif z8 then
 some (Sum.inr ())
 else
 some (Sum.inl ())
def f166_169_l4 (a : (List Int)×(List Int)) (b : (List Int)×(List Int)) (r12 : Int×(List Int)×(List Int)) (q7_3 : List Int) (q7_7 : List Int) (go : (Int×(List Int)) → Option (List Int)) (v52:Int) (l7 : List Int) : Option (List Int) :=
 bif (decide (v52 < (List.length r12.2.2:Int))) then
 guardF (0 ≤ v52 ∧ v52 < (List.length q7_3:Int)) <|
 guardF (0 ≤ (rd (0:Int) q7_3 v52) ∧ (rd (0:Int) q7_3 v52) < (List.length a.2:Int)) <|
 guardF (0 ≤ v52 ∧ v52 < (List.length q7_7:Int)) <|
 guardF (0 ≤ (rd (0:Int) q7_7 v52) ∧ (rd (0:Int) q7_7 v52) < (List.length b.2:Int)) <|
 bindF (f169 (rd (0:Int) a.2 (rd (0:Int) q7_3 v52)) (rd (0:Int) b.2 (rd (0:Int) q7_7 v52))) fun q11_20 =>
 guardF (0 ≤ v52 ∧ v52 < (List.length l7:Int)) <|
 go ((i64.wrap (v52 + (1:Int))),(List.set l7 (Int.toNat v52) q11_20))
 else
 some l7
def f166_169 (a : (List Int)×(List Int)) (b : (List Int)×(List Int)) : Option (Int×(List Int)×(List Int)) :=
 bindF (f166_169_j2 a b) fun z5 =>
 sumF z5 (fun z5a =>
 bindF (f195 a.1 b.1) fun r11 =>
 bif (r11.1 != (0:Int)) then
 some (r11.1,[],[])
 else
 bindF (f171 r11.2 (0:Int)) fun r12 =>
 bindF (f196 a.1 r11.2) fun q7_3 =>
 bindF (f196 b.1 r11.2) fun q7_7 =>
 bindF (loopF (fun go x=>f166_169_l4 a b r12 q7_3 q7_7 go x.1 x.2) fuelN ((0:Int),r12.2.2)) fun z13 =>
 some ((0:Int),r12.2.1,z13)) (fun z5b =>
 some ((1:Int),[],[]))
def C166_169 : Con where
 X := ((List Int)×(List Int))×((List Int)×(List Int))
 Y := Int×(List Int)×(List Int)
 e := 0
 args x := [.dat T9 x.1,.dat T9 x.2,.raw false [(.c (.func (.func 169) #[] #[]))]]
 hin x := []
 F x := f166_169 x.1 x.2
 ret y := [.raw true [(.osl 0),(.osl 1)],.dat T1 y.1]
 hout y := [(0,.arr 3 T1 y.2.1),(1,.arr 57 T1 y.2.2)]
 nout := 2
theorem C166_169_vc (a : (List Int)×(List Int)) (b : (List Int)×(List Int)) (y : Int×(List Int)×(List Int)) (hF : f166_169 a b = some y) : VC Tryz.f166 C166_169 (a,b) y := by
 unfold f166_169 at hF
 refine OL ?_
 obtain ⟨z5,hz5,hF⟩ := bindE hF
 refine OQ ⟨Sum.elim (fun z5a=>[(0,⟨[(2,.raw false [(.c (.func (.func 169) #[] #[]))]),(3,P0 0 0),(4,P0 1 0),(6,P0 2 0)],[(0,.cells [(.d T6 a.1),(.d T6 a.2)]),(1,.cells [(.d T6 b.1),(.d T6 b.2)]),(2,.cells [N0,N0])],3⟩)]) (fun z5b=>[(1,⟨[(6,P0 0 0),(7,D0 1)],[(0,.cells [N0,N0])],1⟩)]) z5,?_,?_⟩
 ·have hF := hz5
  clear hz5
  unfold f166_169_j2 at hF
  obtain ⟨z8,hz8,hF⟩ := bindE hF
  refine OQ ⟨[(0,⟨[(2,.raw false [(.c (.func (.func 169) #[] #[]))]),(3,P0 0 0),(4,P0 1 0),(6,P0 2 0),(22,.dat .bool z8)],[(0,.cells [(.d T6 a.1),(.d T6 a.2)]),(1,.cells [(.d T6 b.1),(.d T6 b.2)]),(2,.cells [N0,N0])],3⟩)],?_,?_⟩
  ·have hF := hz8
   clear hz8
   unfold f166_169_j3 at hF
   obtain ⟨r9,hr9,hF⟩ := bindE hF
   refine OL (AI f91_in (callV0 (callI C91 (a.1,a.2) r9 [] false C91_holds hr9 rfl rfl (R2 (AI (fun h=>nomatch h) (R2 (AI TV (AI TV (condN hF (fun hF=>?_) (fun hF=>?_))))))))))
   ·refine gdYF ?_
    obtain ⟨r10,hr10,hF⟩ := bindE hF
    refine OL (AI f91_in (callV0 (callI C91 (b.1,b.2) r10 [] false C91_holds hr10 rfl rfl (R2 (AI (fun h=>nomatch h) (R2 (AI TV (AI TV (gdYF (condF ?_))))))))))
    have hz := someE hF
    subst hz
    refine E4 [(0,some 0),(1,some 1),(2,some 2)] (R2 (AI (R4 TV) (R3 TV)))
   refine gdNF (gdNF (condT ?_))
   have hz := someE hF
   subst hz
   refine E4 [(0,some 0),(1,some 1),(2,some 2)] (R2 (AI (R4 TV) (R3 TV)))
  refine AI (condI hF (fun hF=>?_) (fun hF=>?_)) TV
  ·refine OL (OL ?_)
   have hz := someE hF
   subst hz
   refine E4 [(0,some 2)] (R2 (AI (AI rfl TV) (AI rfl TV)))
  have hz := someE hF
  subst hz
  refine E4 [(0,some 0),(1,some 1),(2,some 2)] (AI rfl (AI (R4 TV) (R3 TV)))
 rcases z5 with z5a | z5b
 ·dsimp only [sumF] at hF
  refine AI (OL ?_) TV
  obtain ⟨r11,hr11,hF⟩ := bindE hF
  refine OL (AI f195_in (callV0 (callI C195 (a.1,b.1) r11 [] false C195_holds hr11 rfl rfl (R2 (AI (fun h=>nomatch h) (R2 (AI TV (AI TV (OL (OL (condI hF (fun hF=>?_) (fun hF=>?_))))))))))))
  ·refine OL (OL ?_)
   have hy := someE hF
   subst hy
   refine AI rfl (E4 [(0,none),(1,none)] (R2 (AI (AI rfl TV) (R2 TV))))
  refine OL ?_
  obtain ⟨r12,hr12,hF⟩ := bindE hF
  refine OL (AI f171_in (callV0 (callI C171 (r11.2,(0:Int)) r12 [] true C171_holds hr12 rfl rfl (R2 (AI (fun _=>rfl) (R2 (AI TV (AI TV (OL (OL (EI (.take 0 (.take 1 (.take 2 (.take 4 (.take 5 (.take 6 (.alt 3 (.alt 7 (.take 8 (.take 9 .done)) .done) .done))))))) (EI [] (EI [] (AI rfl (AI TV ?_)))))))))))))))
  obtain ⟨q7_3,hq7_3,hF⟩ := bindE hF
  refine OL (AI f196_in (callV0 (callI C196 (a.1,r11.2) q7_3 [] true C196_holds hq7_3 rfl rfl (R2 (AI (fun _=>rfl) (R2 (AI TV (AI TV (AI TV ?_)))))))))
  obtain ⟨q7_7,hq7_7,hF⟩ := bindE hF
  refine OL (AI f196_in (callV0 (callI C196 (b.1,r11.2) q7_7 [] true C196_holds hq7_7 rfl rfl (R2 (AI (fun _=>rfl) (R2 (AI TV (AI TV (OL (OL ?_))))))))))
  obtain ⟨z13,hz13,hF⟩ := bindE hF
  refine loopI (Int×(List Int)) (List Int) (fun x=>⟨[(2,.raw false [(.c (.func (.func 169) #[] #[]))]),(3,P0 0 0),(4,P0 1 0),(6,P0 2 0),(10,P0 3 0),(12,O0 4),(13,O0 5),(51,.dat T1 (List.length r12.2.2:Int)),(52,.dat T1 x.1)],[(0,.cells [(.d T6 a.1),(.d T6 a.2)]),(1,.cells [(.d T6 b.1),(.d T6 b.2)]),(2,.cells [N0,N0]),(3,.cells [(.osl 6),(.osl 7)]),(4,.arr 3 T1 q7_3),(5,.arr 3 T1 q7_7),(6,.arr 3 T1 r12.2.1),(7,.arr 57 T1 x.2)],8⟩) (fun z=>[(2,⟨[(6,P0 0 0),(10,P0 1 0)],[(0,.cells [N0,N0]),(1,.cells [(.osl 2),(.osl 3)]),(2,.arr 3 T1 r12.2.1),(3,.arr 57 T1 z)],4⟩)]) (loopF (fun go x=>f166_169_l4 a b r12 q7_3 q7_7 go x.1 x.2)) fuelN ((0:Int),r12.2.2) z13 (AI hz13 (AI (E4 [(0,some 0),(1,some 1),(2,some 2),(3,some 6),(4,some 7),(5,some 8),(6,some 4),(7,some 5)] (R3 (AI (R7 TV) (R8 TV)))) (AI (fun _ _ h=>loopZ h) (AI (fun m=>curI (fun v52=>fun l7 z hF=>?_)) ?_))))
  ·have hF : f166_169_l4 a b r12 q7_3 q7_7 (loopF (fun go x=>f166_169_l4 a b r12 q7_3 q7_7 go x.1 x.2) m) v52 l7 = some z := hF
   unfold f166_169_l4 at hF
   refine OL (OL (condI hF (fun hF=>?_) (fun hF=>?_)))
   ·refine OL (OL (EI (.take 0 (.take 1 (.take 2 (.take 3 (.take 4 (.take 5 (.take 6 (.take 7 (.take 8 (.take 9 (.take 10 (.take 11 (.take 12 (.take 13 (.take 14 (.take 15 (.take 16 (.take 17 (.take 18 (.take 19 (.alt 20 (.take 21 (.alt 22 .done .done)) .done))))))))))))))))))))) (EI [] (EI [] (AI rfl (guardI hF (fun hF=>?_)))))))
    refine guardI hF (fun hF=>?_)
    refine guardI hF (fun hF=>?_)
    refine guardI hF (fun hF=>?_)
    refine AI TV ?_
    obtain ⟨q11_20,hq11_20,hF⟩ := bindE hF
    refine OL (AI f169_in (callV0 (callI C169 ((rd (0:Int) a.2 (rd (0:Int) q7_3 v52)),(rd (0:Int) b.2 (rd (0:Int) q7_7 v52))) q11_20 [] false C169_holds hq11_20 rfl rfl (R2 (AI (fun h=>nomatch h) (R2 (AI TV (AI TV (guardI hF (fun hF=>?_))))))))))
    refine AI TV (OL (EI ((i64.wrap (v52 + (1:Int))),(List.set l7 (Int.toNat v52) q11_20)) (AI hF (E4 [(0,some 0),(1,some 1),(2,some 2),(3,some 3),(4,some 4),(5,some 5),(6,some 6),(7,some 7)] (R3 (AI (R7 TV) (R8 TV)))))))
   have hz := someE hF
   subst hz
   refine E4 [(0,some 2),(1,some 3),(2,some 6),(3,some 7)] (AI rfl (AI (R2 TV) (R4 TV)))
  refine AI (OL (OL ?_)) TV
  have hy := someE hF
  subst hy
  refine AI rfl (E4 [(0,some 2),(1,some 3)] (R2 (AI (AI rfl TV) (R2 TV))))
 dsimp only [sumF] at hF
 refine AI ?_ TV
 have hy := someE hF
 subst hy
 refine AI rfl (E4 [(0,none),(1,none)] (R2 (AI (AI rfl TV) (R2 TV))))
theorem C166_169_holds : C166_169.Holds Tryz.prog 166 := holds_of_vc tab_ok mixed (fn := Tryz.f166) (by kernel_rfl) rfl C166_169 (fun x y hF=>C166_169_vc x.1 x.2 y hF)
theorem f166_169_in : ∃ fn,Tryz.prog.funcs[166]? = some fn ∧ fn.body.isSome = true ∧ (fn.name == "runtime.NumGoroutine") = false := ⟨Tryz.f166,by kernel_rfl,by kernel_rfl,by kernel_rfl⟩
def f140 (a : (List Int)×(List Int)) (b : (List Int)×(List Int)) : Option (Int×(List Int)×(List Int)) :=
 bindF (f166_169 (a.1,a.2) (b.1,b.2)) fun r1 =>
 some (r1.1,r1.2.1,r1.2.2)
def C140 : Con where
 X := ((List Int)×(List Int))×((List Int)×(List Int))
 Y := Int×(List Int)×(List Int)
 e := 0
 args x := [.dat T9 x.1,.dat T9 x.2]
 hin x := []
 F x := f140 x.1 x.2
 ret y := [.raw true [(.osl 0),(.osl 1)],.dat T1 y.1]
 hout y := [(0,.arr 3 T1 y.2.1),(1,.arr 57 T1 y.2.2)]
 nout := 2
theorem C140_vc (a : (List Int)×(List Int)) (b : (List Int)×(List Int)) (y : Int×(List Int)×(List Int)) (hF : f140 a b = some y) : VC Tryz.f140 C140 (a,b) y := by
 unfold f140 at hF
 refine OL (OL ?_)
 obtain ⟨r1,hr1,hF⟩ := bindE hF
 refine OL (AI f166_169_in (callV0 (callI C166_169 ((a.1,a.2),(b.1,b.2)) r1 [] false C166_169_holds hr1 rfl rfl (R4 (AI (fun h=>nomatch h) (R2 (AI (AI rfl TV) (AI TV (OL ?_)))))))))
 have hy := someE hF
 subst hy
 refine AI rfl (E4 [(0,some 3),(1,some 4)] (R2 (AI (AI rfl TV) (R2 TV))))
theorem C140_holds : C140.Holds Tryz.prog 140 := holds_of_vc tab_ok mixed (fn := Tryz.f140) (by kernel_rfl) rfl C140 (fun x y hF=>C140_vc x.1 x.2 y hF)
theorem f140_in : InP 140 := ⟨Tryz.f140,by kernel_rfl,by kernel_rfl,by kernel_rfl⟩
def f170 (t : (List Int)×(List Int)) : Option Bool :=
 some ((List.length t.1:Int) == (2:Int))
def C170 : Con where
 X := (List Int)×(List Int)
 Y := Bool
 e := 0
 args x := [.dat T9 x]
 hin x := []
 F x := f170 x
 ret y := [.dat .bool y]
 hout y := []
 nout := 0
theorem C170_vc (t : (List Int)×(List Int)) (y : Bool) (hF : f170 t = some y) : VC Tryz.f170 C170 t y := by
 unfold f170 at hF
 refine OL (OL ?_)
 have hy := someE hF
 subst hy
 refine AI rfl (E4 [] (R2 (AI TV TV)))
theorem C170_holds : C170.Holds Tryz.prog 170 := holds_of_vc tab_ok mixed (fn := Tryz.f170) (by kernel_rfl) rfl C170 (fun x y hF=>C170_vc x y hF)
theorem f170_in : InP 170 := ⟨Tryz.f170,by kernel_rfl,by kernel_rfl,by kernel_rfl⟩
def f230_l1 (s : List Int) (v:Int) (go : Int → Option (Sum Int Unit)) (v8:Int) : Option (Sum Int Unit) :=
 bif (decide (v8 < (List.length s:Int))) then
 guardF (0 ≤ v8 ∧ v8 < (List.length s:Int)) <|
 bif (v == (rd (0:Int) s v8)) then
 some (Sum.inl v8)
 else
 go (i64.wrap (v8 + (1:Int)))
 else
 some (Sum.inr ())
def f230 (s : List Int) (v:Int) : Option Int :=
 bindF (loopF (fun go x=>f230_l1 s v go x) fuelN (0:Int)) fun z1 =>
 sumF z1 (fun z1a =>
 some z1a) (fun z1b =>
 some (-1:Int))
def C230 : Con where
 X := (List Int)×Int
 Y := Int
 e := 0
 args x := [.dat T6 x.1,.dat T1 x.2]
 hin x := []
 F x := f230 x.1 x.2
 ret y := [.dat T1 y]
 hout y := []
 nout := 0
theorem C230_vc (s : List Int) (v:Int) (y:Int) (hF : f230 s v = some y) : VC Tryz.f230 C230 (s,v) y := by
 unfold f230 at hF
 refine OL (OL (OL ?_))
 obtain ⟨z1,hz1,hF⟩ := bindE hF
 refine loopI Int (Sum Int Unit) (fun x=>⟨[(0,.dat T6 s),(1,.dat T1 v),(7,.dat T1 (List.length s:Int)),(8,.dat T1 x)],[],0⟩) (fun z=>Sum.elim (fun za=>[(1,⟨[(4,.dat T1 za)],[],0⟩)]) (fun zb=>[(2,⟨[],[],0⟩)]) z) (loopF (fun go x=>f230_l1 s v go x)) fuelN (0:Int) z1 (AI hz1 (AI (E4 [] (R5 (AI TV TV))) (AI (fun _ _ h=>loopZ h) (AI (fun m=>fun v8 z hF=>?_) ?_))))
 ·have hF : f230_l1 s v (loopF (fun go x=>f230_l1 s v go x) m) v8 = some z := hF
  unfold f230_l1 at hF
  refine OL (OL (condI hF (fun hF=>?_) (fun hF=>?_)))
  ·refine OL (OL (OL (guardI hF (fun hF=>?_))))
   refine condI hF (fun hF=>?_) (fun hF=>?_)
   ·refine OL ?_
    have hz := someE hF
    subst hz
    refine E4 [] (R2 (AI TV TV))
   refine EI (i64.wrap (v8 + (1:Int))) (AI hF (E4 [] (R5 (AI TV TV))))
  have hz := someE hF
  subst hz
  refine E4 [] (AI rfl (AI TV TV))
 rcases z1 with z1a | z1b
 ·dsimp only [sumF] at hF
  refine AI ?_ TV
  have hy := someE hF
  subst hy
  refine AI rfl (E4 [] (R2 (AI TV TV)))
 dsimp only [sumF] at hF
 refine AI (OL ?_) TV
 have hy := someE hF
 subst hy
 refine AI rfl (E4 [] (R2 (AI TV TV)))
theorem C230_holds : C230.Holds Tryz.prog 230 := holds_of_vc tab_ok mixed (fn := Tryz.f230) (by kernel_rfl) rfl C230 (fun x y hF=>C230_vc x.1 x.2 y hF)
theorem f230_in : InP 230 := ⟨Tryz.f230,by kernel_rfl,by kernel_rfl,by kernel_rfl⟩
def f225 (s : List Int) (v:Int) : Option Bool :=
 bindF (f230 s v) fun r1 =>
 some (decide (r1 ≥ (0:Int)))
def C225 : Con where
 X := (List Int)×Int
 Y := Bool
 e := 0
 args x := [.dat T6 x.1,.dat T1 x.2]
 hin x := []
 F x := f225 x.1 x.2
 ret y := [.dat .bool y]
 hout y := []
 nout := 0
theorem C225_vc (s : List Int) (v:Int) (y : Bool) (hF : f225 s v = some y) : VC Tryz.f225 C225 (s,v) y := by
 unfold f225 at hF
 refine OL (OL ?_)
 obtain ⟨r1,hr1,hF⟩ := bindE hF
 refine OL (AI f230_in (callV0 (callI C230 (s,v) r1 [] false C230_holds hr1 rfl rfl (R2 (AI (fun h=>nomatch h) (R2 (AI TV (AI TV ?_))))))))
 have hy := someE hF
 subst hy
 refine AI rfl (E4 [] (R2 (AI TV TV)))
theorem C225_holds : C225.Holds Tryz.prog 225 := holds_of_vc tab_ok mixed (fn := Tryz.f225) (by kernel_rfl) rfl C225 (fun x y hF=>C225_vc x.1 x.2 y hF)
theorem f225_in : InP 225 := ⟨Tryz.f225,by kernel_rfl,by kernel_rfl,by kernel_rfl⟩
def f204_l1 (order : List Int) (n:Int) (go : Int → Option (Sum Unit Unit)) (v11:Int) : Option (Sum Unit Unit) :=
 bif (decide (v11 < n)) then
 bindF (f225 order v11) fun r4 =>
 bif (!r4) then
 some (Sum.inl ())
 else
 go (i64.wrap (v11 + (1:Int)))
 else
 some (Sum.inr ())
def f204 (order : List Int) (n:Int) : Option Bool :=
 bif ((List.length order:Int) != n) then
 some false
 else
 bindF (loopF (fun go x=>f204_l1 order n go x) fuelN (0:Int)) fun z3 =>
 sumF z3 (fun z3a =>
 some false) (fun z3b =>
 some true)
def C204 : Con where
 X := (List Int)×Int
 Y := Bool
 e := 0
 args x := [.dat T6 x.1,.dat T1 x.2]
 hin x := []
 F x := f204 x.1 x.2
 ret y := [.dat .bool y]
 hout y := []
 nout := 0
theorem C204_vc (order : List Int) (n:Int) (y : Bool) (hF : f204 order n = some y) : VC Tryz.f204 C204 (order,n) y := by
 unfold f204 at hF
 refine OL (OL (OL (condI hF (fun hF=>?_) (fun hF=>?_))))
 ·refine OL ?_
  have hy := someE hF
  subst hy
  refine AI rfl (E4 [] (R2 (AI TV TV)))
 refine OL (OL ?_)
 obtain ⟨z3,hz3,hF⟩ := bindE hF
 refine loopI Int (Sum Unit Unit) (fun x=>⟨[(0,.dat T6 order),(10,.dat T1 n),(11,.dat T1 x)],[],0⟩) (fun z=>Sum.elim (fun za=>[(1,⟨[(4,.dat .bool false)],[],0⟩)]) (fun zb=>[(2,⟨[],[],0⟩)]) z) (loopF (fun go x=>f204_l1 order n go x)) fuelN (0:Int) z3 (AI hz3 (AI (E4 [] (R4 (AI TV TV))) (AI (fun _ _ h=>loopZ h) (AI (fun m=>fun v11 z hF=>?_) ?_))))
 ·have hF : f204_l1 order n (loopF (fun go x=>f204_l1 order n go x) m) v11 = some z := hF
  unfold f204_l1 at hF
  refine OL (OL (condI hF (fun hF=>?_) (fun hF=>?_)))
  ·refine OL (OL (OL ?_))
   obtain ⟨r4,hr4,hF⟩ := bindE hF
   refine OL (AI f225_in (callV0 (callI C225 (order,v11) r4 [] false C225_holds hr4 rfl rfl (R2 (AI (fun h=>nomatch h) (R2 (AI TV (AI TV (condI hF (fun hF=>?_) (fun hF=>?_))))))))))
   ·refine OL ?_
    have hz := someE hF
    subst hz
    refine E4 [] (R2 (AI TV TV))
   refine EI (i64.wrap (v11 + (1:Int))) (AI hF (E4 [] (R4 (AI TV TV))))
  have hz := someE hF
  subst hz
  refine E4 [] (AI rfl (AI TV TV))
 rcases z3 with z3a | z3b
 ·dsimp only [sumF] at hF
  refine AI ?_ TV
  have hy := someE hF
  subst hy
  refine AI rfl (E4 [] (R2 (AI TV TV)))
 dsimp only [sumF] at hF
 refine AI (OL ?_) TV
 have hy := someE hF
 subst hy
 refine AI rfl (E4 [] (R2 (AI TV TV)))
theorem C204_holds : C204.Holds Tryz.prog 204 := holds_of_vc tab_ok mixed (fn := Tryz.f204) (by kernel_rfl) rfl C204 (fun x y hF=>C204_vc x.1 x.2 y hF)
theorem f204_in : InP 204 := ⟨Tryz.f204,by kernel_rfl,by kernel_rfl,by kernel_rfl⟩
def f205_j1 (d : List Int) (at_:Int) : Option (Sum Unit Unit) :=
 bif (decide (at_ < (0:Int))) then
 some (Sum.inr ())
 else
 bindF (f117 d) fun r3 =>
 bif (decide (at_ ≥ r3)) then
 some (Sum.inr ())
 else
 some (Sum.inl ())
def f205_l2 (d : List Int) (go : (Int×Int×(List Int)) → Option (List Int)) (at__2:Int) (i:Int) (l0 : List Int) : Option (List Int) :=
 bif (decide (i ≥ (0:Int))) then
 guardF (0 ≤ i ∧ i < (List.length d:Int)) <|
 guardF ((rd (0:Int) d i) ≠ 0) <|
 guardF (0 ≤ i ∧ i < (List.length l0:Int)) <|
 guardF (0 ≤ i ∧ i < (List.length d:Int)) <|
 guardF ((rd (0:Int) d i) ≠ 0) <|
 go ((i64.wrap (Int.tdiv at__2 (rd (0:Int) d i))),(i64.wrap (i - (1:Int))),(List.set l0 (Int.toNat i) (Int.tmod at__2 (rd (0:Int) d i))))
 else
 some l0
def f205 (d : List Int) (at_:Int) : Option (Bool×(List Int)) :=
 bindF (f205_j1 d at_) fun z2 =>
 sumF z2 (fun z2a =>
 guardF (0 ≤ (List.length d:Int) ∧ (List.length d:Int) ≤ (List.length d:Int) ∧ Int.toNat (List.length d:Int) * 8 ≤ 140737488355328) <|
 bindF (loopF (fun go x=>f205_l2 d go x.1 x.2.1 x.2.2) fuelN (at_,(i64.wrap ((List.length d:Int) - (1:Int))),(List.replicate (Int.toNat (List.length d:Int)) (0:Int)))) fun z4 =>
 some (true,z4)) (fun z2b =>
 some (false,[]))
def C205 : Con where
 X := (List Int)×Int
 Y := Bool×(List Int)
 e := 0
 args x := [.dat T6 x.1,.dat T1 x.2]
 hin x := []
 F x := f205 x.1 x.2
 ret y := [O0 0,.dat .bool y.1]
 hout y := [(0,.arr 3 T1 y.2)]
 nout := 1
theorem C205_vc (d : List Int) (at_:Int) (y : Bool×(List Int)) (hF : f205 d at_ = some y) : VC Tryz.f205 C205 (d,at_) y := by
 unfold f205 at hF
 refine OL ?_
 obtain ⟨z2,hz2,hF⟩ := bindE hF
 refine OQ ⟨Sum.elim (fun z2a=>[(0,⟨[(0,.dat T6 d),(1,.dat T1 at_)],[],0⟩)]) (fun z2b=>[(1,⟨[(4,.raw false [N0]),(5,.dat .bool false)],[],0⟩)]) z2,?_,?_⟩
 ·have hF := hz2
  clear hz2
  unfold f205_j1 at hF
  refine OL (condN hF (fun hF=>?_) (fun hF=>?_))
  ·refine gdYF (gdYF ?_)
   obtain ⟨r3,hr3,hF⟩ := bindE hF
   refine OL (AI f117_in (callV0 (callI C117 d r3 [] false C117_holds hr3 rfl rfl (AI rfl (AI (fun h=>nomatch h) (R2 (AI TV (AI TV (gdYF (condF (condI hF (fun hF=>?_) (fun hF=>?_))))))))))))
   ·refine OL ?_
    have hz := someE hF
    subst hz
    refine E4 [] (R2 (AI (AI rfl TV) TV))
   have hz := someE hF
   subst hz
   refine E4 [] (R3 (AI TV TV))
  refine gdNF (gdNF (gdNF (condT (condT (OL ?_)))))
  have hz := someE hF
  subst hz
  refine E4 [] (R2 (AI (AI rfl TV) TV))
 rcases z2 with z2a | z2b
 ·dsimp only [sumF] at hF
  refine AI (OL (guardI hF (fun hF=>?_))) TV
  refine OL (OL ?_)
  obtain ⟨z4,hz4,hF⟩ := bindE hF
  refine loopI (Int×Int×(List Int)) (List Int) (fun x=>⟨[(0,.dat T6 d),(1,.dat T1 x.1),(6,O0 0),(7,.dat T1 x.2.1)],[(0,.arr 3 T1 x.2.2)],1⟩) (fun z=>[(2,⟨[(6,O0 0)],[(0,.arr 3 T1 z)],1⟩)]) (loopF (fun go x=>f205_l2 d go x.1 x.2.1 x.2.2)) fuelN (at_,(i64.wrap ((List.length d:Int) - (1:Int))),(List.replicate (Int.toNat (List.length d:Int)) (0:Int))) z4 (AI hz4 (AI (E4 [(0,some 0)] (R4 (AI (AI rfl TV) (AI rfl TV)))) (AI (fun _ _ h=>loopZ h) (AI (fun m=>curI (fun at__2=>curI (fun i=>fun l0 z hF=>?_))) ?_))))
  ·have hF : f205_l2 d (loopF (fun go x=>f205_l2 d go x.1 x.2.1 x.2.2) m) at__2 i l0 = some z := hF
   unfold f205_l2 at hF
   refine OL (OL (condI hF (fun hF=>?_) (fun hF=>?_)))
   ·refine OL (OL (guardI hF (fun hF=>?_)))
    refine guardI hF (fun hF=>?_)
    refine guardI hF (fun hF=>?_)
    refine OL (guardI hF (fun hF=>?_))
    refine guardI hF (fun hF=>?_)
    refine EI ((i64.wrap (Int.tdiv at__2 (rd (0:Int) d i))),(i64.wrap (i - (1:Int))),(List.set l0 (Int.toNat i) (Int.tmod at__2 (rd (0:Int) d i)))) (AI hF (E4 [(0,some 0)] (R4 (AI (AI rfl TV) (AI rfl TV)))))
   have hz := someE hF
   subst hz
   refine E4 [(0,some 0)] (AI rfl (AI (AI rfl TV) (AI rfl TV)))
  refine AI (OL ?_) TV
  have hy := someE hF
  subst hy
  refine AI rfl (E4 [(0,some 0)] (R2 (AI (AI rfl TV) (AI rfl TV))))
 dsimp only [sumF] at hF
 refine AI ?_ TV
 have hy := someE hF
 subst hy
 refine AI rfl (E4 [(0,none)] (R2 (AI (AI rfl TV) (AI rfl TV))))
theorem C205_holds : C205.Holds Tryz.prog 205 := holds_of_vc tab_ok mixed (fn := Tryz.f205) (by kernel_rfl) rfl C205 (fun x y hF=>C205_vc x.1 x.2 y hF)
theorem f205_in : InP 205 := ⟨Tryz.f205,by kernel_rfl,by kernel_rfl,by kernel_rfl⟩
def f206_j1 (d : List Int) (place_ : List Int) : Option (Sum Unit Unit) :=
 bindF (f65 d) fun r3 =>
 bif (!r3) then
 some (Sum.inr ())
 else
 bif ((List.length place_:Int) != (List.length d:Int)) then
 some (Sum.inr ())
 else
 some (Sum.inl ())
def f206_j5 (d : List Int) (place_ : List Int) (v21:Int) : Option (Sum Unit Unit) :=
 bif (decide ((rd (0:Int) place_ v21) < (0:Int))) then
 some (Sum.inr ())
 else
 guardF (0 ≤ v21 ∧ v21 < (List.length d:Int)) <|
 bif (decide ((rd (0:Int) place_ v21) ≥ (rd (0:Int) d v21))) then
 some (Sum.inr ())
 else
 some (Sum.inl ())
def f206_l4 (d : List Int) (place_ : List Int) (go : (Int×Int) → Option (Sum Unit Int)) (at_:Int) (v21:Int) : Option (Sum Unit Int) :=
 bif (decide (v21 < (List.length place_:Int))) then
 guardF (0 ≤ v21 ∧ v21 < (List.length place_:Int)) <|
 bindF (f206_j5 d place_ v21) fun z7 =>
 sumF z7 (fun z7a =>
 guardF (0 ≤ v21 ∧ v21 < (List.length d:Int)) <|
 go ((i64.wrap ((i64.wrap (at_ * (rd (0:Int) d v21))) + (rd (0:Int) place_ v21))),(i64.wrap (v21 + (1:Int))))) (fun z7b =>
 some (Sum.inl ()))
 else
 some (Sum.inr at_)
def f206 (d : List Int) (place_ : List Int) : Option (Int×Bool) :=
 bindF (f206_j1 d place_) fun z2 =>
 sumF z2 (fun z2a =>
 bindF (loopF (fun go x=>f206_l4 d place_ go x.1 x.2) fuelN ((0:Int),(0:Int))) fun z6 =>
 sumF z6 (fun z6a =>
 some ((0:Int),false)) (fun z6b =>
 some (z6b,true))) (fun z2b =>
 some ((0:Int),false))
def C206 : Con where
 X := (List Int)×(List Int)
 Y := Int×Bool
 e := 0
 args x := [.dat T6 x.1,.dat T6 x.2]
 hin x := []
 F x := f206 x.1 x.2
 ret y := [.dat T1 y.1,.dat .bool y.2]
 hout y := []
 nout := 0
theorem C206_vc (d : List Int) (place_ : List Int) (y : Int×Bool) (hF : f206 d place_ = some y) : VC Tryz.f206 C206 (d,place_) y := by
 unfold f206 at hF
 refine OL ?_
 obtain ⟨z2,hz2,hF⟩ := bindE hF
 refine OQ ⟨Sum.elim (fun z2a=>[(0,⟨[(0,.dat T6 d),(1,.dat T6 place_)],[],0⟩)]) (fun z2b=>[(1,⟨[(4,D0 0),(5,.dat .bool false)],[],0⟩)]) z2,?_,?_⟩
 ·have hF := hz2
  clear hz2
  unfold f206_j1 at hF
  refine OL ?_
  obtain ⟨r3,hr3,hF⟩ := bindE hF
  refine OL (AI f65_in (callV0 (callI C65 d r3 [] false C65_holds hr3 rfl rfl (AI rfl (AI (fun h=>nomatch h) (R2 (AI TV (AI TV (condN hF (fun hF=>?_) (fun hF=>?_))))))))))
  ·refine gdYF (gdYF (gdYF (gdYF (condF (condI hF (fun hF=>?_) (fun hF=>?_))))))
   ·refine OL ?_
    have hz := someE hF
    subst hz
    refine E4 [] (R3 (AI TV TV))
   have hz := someE hF
   subst hz
   refine E4 [] (R3 (AI TV TV))
  refine gdNF (gdNF (gdNF (gdNF (condT (condT (OL ?_))))))
  have hz := someE hF
  subst hz
  refine E4 [] (R3 (AI TV TV))
 rcases z2 with z2a | z2b
 ·dsimp only [sumF] at hF
  refine AI (OL (OL (OL ?_))) TV
  obtain ⟨z6,hz6,hF⟩ := bindE hF
  refine loopI (Int×Int) (Sum Unit Int) (fun x=>⟨[(0,.dat T6 d),(6,.dat T1 x.1),(19,.dat T6 place_),(20,.dat T1 (List.length place_:Int)),(21,.dat T1 x.2)],[],0⟩) (fun z=>Sum.elim (fun za=>[(1,⟨[(4,D0 0),(5,.dat .bool false)],[],0⟩)]) (fun zb=>[(2,⟨[(6,.dat T1 zb)],[],0⟩)]) z) (loopF (fun go x=>f206_l4 d place_ go x.1 x.2)) fuelN ((0:Int),(0:Int)) z6 (AI hz6 (AI (E4 [] (R6 (AI TV TV))) (AI (fun _ _ h=>loopZ h) (AI (fun m=>curI (fun at_=>fun v21 z hF=>?_)) ?_))))
  ·have hF : f206_l4 d place_ (loopF (fun go x=>f206_l4 d place_ go x.1 x.2) m) at_ v21 = some z := hF
   unfold f206_l4 at hF
   refine OL (OL (condI hF (fun hF=>?_) (fun hF=>?_)))
   ·refine OL (OL (guardI hF (fun hF=>?_)))
    obtain ⟨z7,hz7,hF⟩ := bindE hF
    refine OQ ⟨Sum.elim (fun z7a=>[(0,⟨[(0,.dat T6 d),(6,.dat T1 at_),(7,.dat T1 v21),(8,.dat T1 (rd (0:Int) place_ v21)),(19,.dat T6 place_),(20,.dat T1 (List.length place_:Int)),(21,.dat T1 v21)],[],0⟩)]) (fun z7b=>[(1,⟨[(4,D0 0),(5,.dat .bool false)],[],0⟩)]) z7,?_,?_⟩
    ·have hF := hz7
     clear hz7
     unfold f206_j5 at hF
     refine OL (condN hF (fun hF=>?_) (fun hF=>?_))
     ·refine gdYF (gdYF (gdYF (guardI hF (fun hF=>?_))))
      refine gdYF (gdYF (condF (condI hF (fun hF=>?_) (fun hF=>?_))))
      ·refine OL ?_
       have hz := someE hF
       subst hz
       refine E4 [] (R3 (AI TV TV))
      have hz := someE hF
      subst hz
      refine E4 [] (R8 (AI TV TV))
     refine gdNF (gdNF (gdNF (gdNF (gdNF (condT (condT (OL ?_)))))))
     have hz := someE hF
     subst hz
     refine E4 [] (R3 (AI TV TV))
    rcases z7 with z7a | z7b
    ·dsimp only [sumF] at hF
     refine AI (guardI hF (fun hF=>?_)) TV
     refine EI ((i64.wrap ((i64.wrap (at_ * (rd (0:Int) d v21))) + (rd (0:Int) place_ v21))),(i64.wrap (v21 + (1:Int)))) (AI hF (E4 [] (R6 (AI TV TV))))
    dsimp only [sumF] at hF
    refine AI ?_ TV
    have hz := someE hF
    subst hz
    refine E4 [] (R3 (AI TV TV))
   have hz := someE hF
   subst hz
   refine E4 [] (R2 (AI TV TV))
  rcases z6 with z6a | z6b
  ·dsimp only [sumF] at hF
   refine AI ?_ TV
   have hy := someE hF
   subst hy
   refine AI rfl (E4 [] (R3 (AI TV TV)))
  dsimp only [sumF] at hF
  refine AI (OL ?_) TV
  have hy := someE hF
  subst hy
  refine AI rfl (E4 [] (R3 (AI TV TV)))
 dsimp only [sumF] at hF
 refine AI ?_ TV
 have hy := someE hF
 subst hy
 refine AI rfl (E4 [] (R3 (AI TV TV)))
theorem C206_holds : C206.Holds Tryz.prog 206 := holds_of_vc tab_ok mixed (fn := Tryz.f206) (by kernel_rfl) rfl C206 (fun x y hF=>C206_vc x.1 x.2 y hF)
theorem f206_in : InP 206 := ⟨Tryz.f206,by kernel_rfl,by kernel_rfl,by kernel_rfl⟩
def f178_j3 (a : (List Int)×(List Int)) (order : List Int) : Option Bool :=
 bindF (f91 (a.1,a.2)) fun r9 =>
 bif (!r9) then
 some true
 else
 bindF (f204 order (List.length a.1:Int)) fun r10 =>
 some (!r10)
def f178_j2 (a : (List Int)×(List Int)) (order : List Int) : Option (Sum Unit Unit) :=
 bindF (f178_j3 a order) fun z8 =>
 bif z8 then
 some (Sum.inr ())
 else
 some (Sum.inl ())
def f178_l4 (a : (List Int)×(List Int)) (order : List Int) (go : (Int×(List Int)) → Option (List Int)) (v36:Int) (l2 : List Int) : Option (List Int) :=
 bif (decide (v36 < (List.length order:Int))) then
 guardF (0 ≤ v36 ∧ v36 < (List.length order:Int)) <|
 guardF (0 ≤ (rd (0:Int) order v36) ∧ (rd (0:Int) order v36) < (List.length a.1:Int)) <|
 guardF (0 ≤ v36 ∧ v36 < (List.length l2:Int)) <|
 go ((i64.wrap (v36 + (1:Int))),(List.set l2 (Int.toNat v36) (rd (0:Int) a.1 (rd (0:Int) order v36))))
 else
 some l2
def f178_l8 (order : List Int) (q21_9 : Bool×(List Int)) (go : (Int×(List Int)) → Option (List Int)) (v72:Int) (l5_2 : List Int) : Option (List Int) :=
 bif (decide (v72 < (List.length order:Int))) then
 guardF (0 ≤ v72 ∧ v72 < (List.length order:Int)) <|
 guardF (0 ≤ v72 ∧ v72 < (List.length q21_9.2:Int)) <|
 guardF (0 ≤ (rd (0:Int) order v72) ∧ (rd (0:Int) order v72) < (List.length l5_2:Int)) <|
 go ((i64.wrap (v72 + (1:Int))),(List.set l5_2 (Int.toNat (rd (0:Int) order v72)) (rd (0:Int) q21_9.2 v72)))
 else
 some l5_2
def f178_l7 (a : (List Int)×(List Int)) (order : List Int) (z11 : List Int) (r12 : Int×(List Int)×(List Int)) (go : (Int×(List Int)) → Option (List Int)) (v58:Int) (l5 : List Int) : Option (List Int) :=
 bif (decide (v58 < (List.length r12.2.2:Int))) then
 bindF (f205 z11 v58) fun q21_9 =>
 guardF (0 ≤ (List.length order:Int) ∧ (List.length order:Int) ≤ (List.length order:Int) ∧ Int.toNat (List.length order:Int) * 8 ≤ 140737488355328) <|
 bindF (loopF (fun go x=>f178_l8 order q21_9 go x.1 x.2) fuelN ((0:Int),(List.replicate (Int.toNat (List.length order:Int)) (0:Int)))) fun z19 =>
 bindF (f206 a.1 z19) fun r20 =>
 guardF (0 ≤ r20.1 ∧ r20.1 < (List.length a.2:Int)) <|
 guardF (0 ≤ v58 ∧ v58 < (List.length l5:Int)) <|
 go ((i64.wrap (v58 + (1:Int))),(List.set l5 (Int.toNat v58) (rd (0:Int) a.2 r20.1)))
 else
 some l5
def f178 (a : (List Int)×(List Int)) (order : List Int) : Option (Int×(List Int)×(List Int)) :=
 bindF (f178_j2 a order) fun z5 =>
 sumF z5 (fun z5a =>
 guardF (0 ≤ (List.length order:Int) ∧ (List.length order:Int) ≤ (List.length order:Int) ∧ Int.toNat (List.length order:Int) * 8 ≤ 140737488355328) <|
 bindF (loopF (fun go x=>f178_l4 a order go x.1 x.2) fuelN ((0:Int),(List.replicate (Int.toNat (List.length order:Int)) (0:Int)))) fun z11 =>
 bindF (f171 z11 (0:Int)) fun r12 =>
 bindF (loopF (fun go x=>f178_l7 a order z11 r12 go x.1 x.2) fuelN ((0:Int),r12.2.2)) fun z18 =>
 some ((0:Int),r12.2.1,z18)) (fun z5b =>
 some ((1:Int),[],[]))
def C178 : Con where
 X := ((List Int)×(List Int))×(List Int)
 Y := Int×(List Int)×(List Int)
 e := 0
 args x := [.dat T9 x.1,.dat T6 x.2]
 hin x := []
 F x := f178 x.1 x.2
 ret y := [.raw true [(.osl 0),(.osl 1)],.dat T1 y.1]
 hout y := [(0,.arr 3 T1 y.2.1),(1,.arr 57 T1 y.2.2)]
 nout := 2
theorem C178_vc (a : (List Int)×(List Int)) (order : List Int) (y : Int×(List Int)×(List Int)) (hF : f178 a order = some y) : VC Tryz.f178 C178 (a,order) y := by
 unfold f178 at hF
 refine OL ?_
 obtain ⟨z5,hz5,hF⟩ := bindE hF
 refine OQ ⟨Sum.elim (fun z5a=>[(0,⟨[(1,.dat T6 order),(2,P0 0 0),(4,P0 1 0)],[(0,.cells [(.d T6 a.1),(.d T6 a.2)]),(1,.cells [N0,N0])],2⟩)]) (fun z5b=>[(1,⟨[(4,P0 0 0),(5,D0 1)],[(0,.cells [N0,N0])],1⟩)]) z5,?_,?_⟩
 ·have hF := hz5
  clear hz5
  unfold f178_j2 at hF
  obtain ⟨z8,hz8,hF⟩ := bindE hF
  refine OQ ⟨[(0,⟨[(1,.dat T6 order),(2,P0 0 0),(4,P0 1 0),(29,.dat .bool z8)],[(0,.cells [(.d T6 a.1),(.d T6 a.2)]),(1,.cells [N0,N0])],2⟩)],?_,?_⟩
  ·have hF := hz8
   clear hz8
   unfold f178_j3 at hF
   obtain ⟨r9,hr9,hF⟩ := bindE hF
   refine OL (AI f91_in (callV0 (callI C91 (a.1,a.2) r9 [] false C91_holds hr9 rfl rfl (R2 (AI (fun h=>nomatch h) (R2 (AI TV (AI TV (condN hF (fun hF=>?_) (fun hF=>?_))))))))))
   ·refine gdYF (gdYF (gdYF (gdYF ?_)))
    obtain ⟨r10,hr10,hF⟩ := bindE hF
    refine OL (AI f204_in (callV0 (callI C204 (order,(List.length a.1:Int)) r10 [] false C204_holds hr10 rfl rfl (R2 (AI (fun h=>nomatch h) (R2 (AI TV (AI TV (gdYF (condF ?_))))))))))
    have hz := someE hF
    subst hz
    refine E4 [(0,some 0),(1,some 1)] (R3 (AI (R2 TV) (R2 TV)))
   refine gdNF (gdNF (gdNF (gdNF (gdNF (condT ?_)))))
   have hz := someE hF
   subst hz
   refine E4 [(0,some 0),(1,some 1)] (R3 (AI (R2 TV) (R2 TV)))
  refine AI (condI hF (fun hF=>?_) (fun hF=>?_)) TV
  ·refine OL (OL ?_)
   have hz := someE hF
   subst hz
   refine E4 [(0,some 1)] (R2 (AI (AI rfl TV) (AI rfl TV)))
  have hz := someE hF
  subst hz
  refine E4 [(0,some 0),(1,some 1)] (R2 (AI (R2 TV) (R2 TV)))
 rcases z5 with z5a | z5b
 ·dsimp only [sumF] at hF
  refine AI (OL (guardI hF (fun hF=>?_))) TV
  refine OL (OL ?_)
  obtain ⟨z11,hz11,hF⟩ := bindE hF
  refine loopI (Int×(List Int)) (List Int) (fun x=>⟨[(1,.dat T6 order),(2,P0 0 0),(4,P0 1 0),(6,O0 2),(34,.dat T6 order),(35,.dat T1 (List.length order:Int)),(36,.dat T1 x.1)],[(0,.cells [(.d T6 a.1),(.d T6 a.2)]),(1,.cells [N0,N0]),(2,.arr 3 T1 x.2)],3⟩) (fun z=>[(2,⟨[(1,.dat T6 order),(2,P0 0 0),(4,P0 1 0),(6,O0 2)],[(0,.cells [(.d T6 a.1),(.d T6 a.2)]),(1,.cells [N0,N0]),(2,.arr 3 T1 z)],3⟩)]) (loopF (fun go x=>f178_l4 a order go x.1 x.2)) fuelN ((0:Int),(List.replicate (Int.toNat (List.length order:Int)) (0:Int))) z11 (AI hz11 (AI (E4 [(0,some 0),(1,some 1),(2,some 2)] (R5 (AI (R3 TV) (R3 TV)))) (AI (fun _ _ h=>loopZ h) (AI (fun m=>curI (fun v36=>fun l2 z hF=>?_)) ?_))))
  ·have hF : f178_l4 a order (loopF (fun go x=>f178_l4 a order go x.1 x.2) m) v36 l2 = some z := hF
   unfold f178_l4 at hF
   refine OL (OL (condI hF (fun hF=>?_) (fun hF=>?_)))
   ·refine OL (OL (guardI hF (fun hF=>?_)))
    refine guardI hF (fun hF=>?_)
    refine guardI hF (fun hF=>?_)
    refine OL (EI ((i64.wrap (v36 + (1:Int))),(List.set l2 (Int.toNat v36) (rd (0:Int) a.1 (rd (0:Int) order v36)))) (AI hF (E4 [(0,some 0),(1,some 1),(2,some 2)] (R5 (AI (R3 TV) (R3 TV))))))
   have hz := someE hF
   subst hz
   refine E4 [(0,some 0),(1,some 1),(2,some 2)] (R2 (AI (R3 TV) (R3 TV)))
  refine AI (OL ?_) TV
  obtain ⟨r12,hr12,hF⟩ := bindE hF
  refine OL (AI f171_in (callV0 (callI C171 (z11,(0:Int)) r12 [] true C171_holds hr12 rfl rfl (R2 (AI (fun _=>rfl) (R2 (AI TV (AI TV (OL (OL (OL ?_)))))))))))
  obtain ⟨z18,hz18,hF⟩ := bindE hF
  refine loopI (Int×(List Int)) (List Int) (fun x=>⟨[(1,.dat T6 order),(2,P0 0 0),(4,P0 1 0),(6,O0 2),(9,P0 3 0),(57,.dat T1 (List.length r12.2.2:Int)),(58,.dat T1 x.1)],[(0,.cells [(.d T6 a.1),(.d T6 a.2)]),(1,.cells [N0,N0]),(2,.arr 3 T1 z11),(3,.cells [(.osl 4),(.osl 5)]),(4,.arr 3 T1 r12.2.1),(5,.arr 57 T1 x.2)],6⟩) (fun z=>[(4,⟨[(4,P0 0 0),(9,P0 1 0)],[(0,.cells [N0,N0]),(1,.cells [(.osl 2),(.osl 3)]),(2,.arr 3 T1 r12.2.1),(3,.arr 57 T1 z)],4⟩)]) (loopF (fun go x=>f178_l7 a order z11 r12 go x.1 x.2)) fuelN ((0:Int),r12.2.2) z18 (AI hz18 (AI (E4 [(0,some 0),(1,some 1),(2,some 2),(3,some 5),(4,some 3),(5,some 4)] (R4 (AI (R4 TV) (R6 TV)))) (AI (fun _ _ h=>loopZ h) (AI (fun m=>curI (fun v58=>fun l5 z hF=>?_)) ?_))))
  ·have hF : f178_l7 a order z11 r12 (loopF (fun go x=>f178_l7 a order z11 r12 go x.1 x.2) m) v58 l5 = some z := hF
   unfold f178_l7 at hF
   refine OL (OL (condI hF (fun hF=>?_) (fun hF=>?_)))
   ·refine OL (OL (OL ?_))
    obtain ⟨q21_9,hq21_9,hF⟩ := bindE hF
    refine OL (AI f205_in (callV0 (callI C205 (z11,v58) q21_9 [] true C205_holds hq21_9 rfl rfl (R2 (AI (fun _=>rfl) (R2 (AI TV (AI TV (OL (guardI hF (fun hF=>?_)))))))))))
    refine OL (OL ?_)
    obtain ⟨z19,hz19,hF⟩ := bindE hF
    refine loopI (Int×(List Int)) (List Int) (fun x=>⟨[(1,.dat T6 order),(2,P0 0 0),(4,P0 1 0),(6,O0 2),(9,P0 3 0),(11,.dat T1 v58),(12,O0 4),(14,O0 5),(57,.dat T1 (List.length r12.2.2:Int)),(58,.dat T1 v58),(70,.dat T6 order),(71,.dat T1 (List.length order:Int)),(72,.dat T1 x.1)],[(0,.cells [(.d T6 a.1),(.d T6 a.2)]),(1,.cells [N0,N0]),(2,.arr 3 T1 z11),(3,.cells [(.osl 6),(.osl 7)]),(4,.arr 3 T1 q21_9.2),(5,.arr 3 T1 x.2),(6,.arr 3 T1 r12.2.1),(7,.arr 57 T1 l5)],8⟩) (fun z=>[(6,⟨[(1,.dat T6 order),(2,P0 0 0),(4,P0 1 0),(6,O0 2),(9,P0 3 0),(11,.dat T1 v58),(14,O0 4),(57,.dat T1 (List.length r12.2.2:Int)),(58,.dat T1 v58)],[(0,.cells [(.d T6 a.1),(.d T6 a.2)]),(1,.cells [N0,N0]),(2,.arr 3 T1 z11),(3,.cells [(.osl 5),(.osl 6)]),(4,.arr 3 T1 z),(5,.arr 3 T1 r12.2.1),(6,.arr 57 T1 l5)],7⟩)]) (loopF (fun go x=>f178_l8 order q21_9 go x.1 x.2)) fuelN ((0:Int),(List.replicate (Int.toNat (List.length order:Int)) (0:Int))) z19 (AI hz19 (AI (E4 [(0,some 0),(1,some 1),(2,some 2),(3,some 3),(4,some 6),(5,some 7),(6,some 4),(7,some 5)] (R8 (AI (R6 TV) (R8 TV)))) (AI (fun _ _ h=>loopZ h) (AI (fun m=>curI (fun v72=>fun l5_2 z hF=>?_)) ?_))))
    ·have hF : f178_l8 order q21_9 (loopF (fun go x=>f178_l8 order q21_9 go x.1 x.2) m) v72 l5_2 = some z := hF
     unfold f178_l8 at hF
     refine OL (OL (condI hF (fun hF=>?_) (fun hF=>?_)))
     ·refine OL (OL (guardI hF (fun hF=>?_)))
      refine guardI hF (fun hF=>?_)
      refine guardI hF (fun hF=>?_)
      refine OL (EI ((i64.wrap (v72 + (1:Int))),(List.set l5_2 (Int.toNat (rd (0:Int) order v72)) (rd (0:Int) q21_9.2 v72))) (AI hF (E4 [(0,some 0),(1,some 1),(2,some 2),(3,some 3),(4,some 4),(5,some 5),(6,some 6),(7,some 7)] (R8 (AI (R6 TV) (R8 TV))))))
     have hz := someE hF
     subst hz
     refine E4 [(0,some 0),(1,some 1),(2,some 2),(3,some 3),(4,some 5),(5,some 6),(6,some 7)] (R5 (AI (R5 TV) (R7 TV)))
    refine AI (OL ?_) TV
    obtain ⟨r20,hr20,hF⟩ := bindE hF
    refine OL (AI f206_in (callV0 (callI C206 (a.1,z19) r20 [] true C206_holds hr20 rfl rfl (R2 (AI (fun _=>rfl) (R2 (AI TV (AI TV (EI (.take 0 (.take 1 (.take 2 (.take 3 (.take 4 (.take 5 (.take 6 (.take 7 (.take 8 (.alt 9 .done .done)))))))))) (EI [] (EI [] (AI rfl (guardI hF (fun hF=>?_))))))))))))))
    refine guardI hF (fun hF=>?_)
    refine AI TV (OL (EI ((i64.wrap (v58 + (1:Int))),(List.set l5 (Int.toNat v58) (rd (0:Int) a.2 r20.1))) (AI hF (E4 [(0,some 0),(1,some 1),(2,some 2),(3,some 3),(4,some 5),(5,some 6)] (R4 (AI (R4 TV) (R6 TV)))))))
   have hz := someE hF
   subst hz
   refine E4 [(0,some 1),(1,some 3),(2,some 4),(3,some 5)] (AI rfl (AI (R2 TV) (R4 TV)))
  refine AI (OL (OL ?_)) TV
  have hy := someE hF
  subst hy
  refine AI rfl (E4 [(0,some 2),(1,some 3)] (R2 (AI (AI rfl TV) (R2 TV))))
 dsimp only [sumF] at hF
 refine AI ?_ TV
 have hy := someE hF
 subst hy
 refine AI rfl (E4 [(0,none),(1,none)] (R2 (AI (AI rfl TV) (R2 TV))))
theorem C178_holds : C178.Holds Tryz.prog 178 := holds_of_vc tab_ok mixed (fn := Tryz.f178) (by kernel_rfl) rfl C178 (fun x y hF=>C178_vc x.1 x.2 y hF)
theorem f178_in : InP 178 := ⟨Tryz.f178,by kernel_rfl,by kernel_rfl,by kernel_rfl⟩
def f144 (a : (List Int)×(List Int)) : Option (Int×(List Int)×(List Int)) :=
 bindF (f91 (a.1,a.2)) fun r1 =>
 bif (!r1) then
 some ((1:Int),[],[])
 else
 bindF (f170 (a.1,a.2)) fun r2 =>
 bif (!r2) then
 some ((4:Int),[],[])
 else
 bindF (f178 (a.1,a.2) ([(1:Int),(0:Int)])) fun r3 =>
 some (r3.1,r3.2.1,r3.2.2)
def C144 : Con where
 X := (List Int)×(List Int)
 Y := Int×(List Int)×(List Int)
 e := 0
 args x := [.dat T9 x]
 hin x := []
 F x := f144 x
 ret y := [.raw true [(.osl 0),(.osl 1)],.dat T1 y.1]
 hout y := [(0,.arr 3 T1 y.2.1),(1,.arr 57 T1 y.2.2)]
 nout := 2
theorem C144_vc (a : (List Int)×(List Int)) (y : Int×(List Int)×(List Int)) (hF : f144 a = some y) : VC Tryz.f144 C144 a y := by
 unfold f144 at hF
 refine OL (OL (OL ?_))
 obtain ⟨r1,hr1,hF⟩ := bindE hF
 refine OL (AI f91_in (callV0 (callI C91 (a.1,a.2) r1 [] false C91_holds hr1 rfl rfl (R2 (AI (fun h=>nomatch h) (R2 (AI TV (AI TV (condI hF (fun hF=>?_) (fun hF=>?_))))))))))
 ·refine OL (OL ?_)
  have hy := someE hF
  subst hy
  refine AI rfl (E4 [(0,none),(1,none)] (R2 (AI (AI rfl TV) (R2 TV))))
 refine OL ?_
 obtain ⟨r2,hr2,hF⟩ := bindE hF
 refine OL (AI f170_in (callV0 (callI C170 (a.1,a.2) r2 [] false C170_holds hr2 rfl rfl (R2 (AI (fun h=>nomatch h) (R2 (AI TV (AI TV (condI hF (fun hF=>?_) (fun hF=>?_))))))))))
 ·refine OL (OL ?_)
  have hy := someE hF
  subst hy
  refine AI rfl (E4 [(0,none),(1,none)] (R2 (AI (AI rfl TV) (R2 TV))))
 refine OL (OL ?_)
 obtain ⟨r3,hr3,hF⟩ := bindE hF
 refine OL (AI f178_in (callV0 (callI C178 ((a.1,a.2),[(1:Int),(0:Int)]) r3 [] true C178_holds hr3 rfl rfl (R3 (AI (fun _=>rfl) (R2 (AI TV (AI TV (OL ?_)))))))))
 have hy := someE hF
 subst hy
 refine AI rfl (E4 [(0,some 3),(1,some 4)] (R2 (AI (AI rfl TV) (R2 TV))))
theorem C144_holds : C144.Holds Tryz.prog 144 := holds_of_vc tab_ok mixed (fn := Tryz.f144) (by kernel_rfl) rfl C144 (fun x y hF=>C144_vc x y hF)
theorem f144_in : InP 144 := ⟨Tryz.f144,by kernel_rfl,by kernel_rfl,by kernel_rfl⟩
def f210 (v:Int) : Option Int :=
 bif (decide (v < (0:Int))) then
 some (u64.wrap (0 - (u64.wrap v)))
 else
 some (u64.wrap v)
def C210 : Con where
 X := Int
 Y := Int
 e := 0
 args x := [.dat T1 x]
 hin x := []
 F x := f210 x
 ret y := [.dat T10 y]
 hout y := []
 nout := 0
theorem C210_vc (v:Int) (y:Int) (hF : f210 v = some y) : VC Tryz.f210 C210 v y := by
 unfold f210 at hF
 refine OL (OL (OL (condI hF (fun hF=>?_) (fun hF=>?_))))
 ·refine OL ?_
  have hy := someE hF
  subst hy
  refine AI rfl (E4 [] (R2 (AI TV TV)))
 refine OL ?_
 have hy := someE hF
 subst hy
 refine AI rfl (E4 [] (R2 (AI TV TV)))
theorem C210_holds : C210.Holds Tryz.prog 210 := holds_of_vc tab_ok mixed (fn := Tryz.f210) (by kernel_rfl) rfl C210 (fun x y hF=>C210_vc x y hF)
theorem f210_in : InP 210 := ⟨Tryz.f210,by kernel_rfl,by kernel_rfl,by kernel_rfl⟩
def f227 (a : Int×Int) (b : Int×Int) : Option (Int×Int) :=
 bindF (sub64 a.2 b.2 (0:Int)) fun r1 =>
 bindF (sub64 (u64.wrap a.1) (u64.wrap b.1) r1.2) fun r2 =>
 some ((i64.wrap r2.1),r1.1)
def C227 : Con where
 X := (Int×Int)×(Int×Int)
 Y := Int×Int
 e := 0
 args x := [.dat T11 x.1,.dat T11 x.2]
 hin x := []
 F x := f227 x.1 x.2
 ret y := [.raw true [(.d T1 y.1),(.d T10 y.2)]]
 hout y := []
 nout := 0
theorem C227_vc (a : Int×Int) (b : Int×Int) (y : Int×Int) (hF : f227 a b = some y) : VC Tryz.f227 C227 (a,b) y := by
 unfold f227 at hF
 refine OL (OL ?_)
 obtain ⟨r1,hr1,hF⟩ := bindE hF
 refine OQ ⟨ext3 sub64,[r1.1,r1.2],sub64_ok,AI (ext3I hr1) ?_⟩
 refine OL ?_
 obtain ⟨r2,hr2,hF⟩ := bindE hF
 refine OQ ⟨ext3 sub64,[r2.1,r2.2],sub64_ok,AI (ext3I hr2) ?_⟩
 refine OL (OL ?_)
 have hy := someE hF
 subst hy
 refine AI rfl (E4 [] (AI rfl (AI (AI rfl TV) TV)))
theorem C227_holds : C227.Holds Tryz.prog 227 := holds_of_vc tab_ok mixed (fn := Tryz.f227) (by kernel_rfl) rfl C227 (fun x y hF=>C227_vc x.1 x.2 y hF)
theorem f227_in : InP 227 := ⟨Tryz.f227,by kernel_rfl,by kernel_rfl,by kernel_rfl⟩
def f212 (a : Int×Int) : Option (Int×Int) :=
 bindF (f227 ((0:Int),(0:Int)) (a.1,a.2)) fun r1 =>
 some (r1.1,r1.2)
def C212 : Con where
 X := Int×Int
 Y := Int×Int
 e := 0
 args x := [.dat T11 x]
 hin x := []
 F x := f212 x
 ret y := [.raw true [(.d T1 y.1),(.d T10 y.2)]]
 hout y := []
 nout := 0
theorem C212_vc (a : Int×Int) (y : Int×Int) (hF : f212 a = some y) : VC Tryz.f212 C212 a y := by
 unfold f212 at hF
 refine OL (OL ?_)
 obtain ⟨r1,hr1,hF⟩ := bindE hF
 refine OL (AI f227_in (callV0 (callI C227 (((0:Int),(0:Int)),(a.1,a.2)) r1 [] false C227_holds hr1 rfl rfl (R4 (AI (fun h=>nomatch h) (R2 (AI TV (AI TV (OL ?_)))))))))
 have hy := someE hF
 subst hy
 refine AI rfl (E4 [] (AI rfl (AI (AI rfl TV) TV)))
theorem C212_holds : C212.Holds Tryz.prog 212 := holds_of_vc tab_ok mixed (fn := Tryz.f212) (by kernel_rfl) rfl C212 (fun x y hF=>C212_vc x y hF)
theorem f212_in : InP 212 := ⟨Tryz.f212,by kernel_rfl,by kernel_rfl,by kernel_rfl⟩
def f202 (a:Int) (b:Int) : Option (Int×Int) :=
 bindF (f210 a) fun r1 =>
 bindF (f210 b) fun r2 =>
 bindF (f197 r1 r2) fun r3 =>
 bif (!((decide (a < (0:Int))) == (decide (b < (0:Int))))) then
 bindF (f212 ((i64.wrap r3.1),r3.2)) fun r4 =>
 some (r4.1,r4.2)
 else
 some ((i64.wrap r3.1),r3.2)
def C202 : Con where
 X := Int×Int
 Y := Int×Int
 e := 0
 args x := [.dat T1 x.1,.dat T1 x.2]
 hin x := []
 F x := f202 x.1 x.2
 ret y := [.raw true [(.d T1 y.1),(.d T10 y.2)]]
 hout y := []
 nout := 0
theorem C202_vc (a:Int) (b:Int) (y : Int×Int) (hF : f202 a b = some y) : VC Tryz.f202 C202 (a,b) y := by
 unfold f202 at hF
 refine OL (OL ?_)
 obtain ⟨r1,hr1,hF⟩ := bindE hF
 refine OL (AI f210_in (callV0 (callI C210 a r1 [] false C210_holds hr1 rfl rfl (AI rfl (AI (fun h=>nomatch h) (R2 (AI TV (AI TV ?_))))))))
 obtain ⟨r2,hr2,hF⟩ := bindE hF
 refine OL (AI f210_in (callV0 (callI C210 b r2 [] false C210_holds hr2 rfl rfl (AI rfl (AI (fun h=>nomatch h) (R2 (AI TV (AI TV ?_))))))))
 obtain ⟨r3,hr3,hF⟩ := bindE hF
 refine OL (AI f197_in (callV0 (callI C197 (r1,r2) r3 [] false C197_holds hr3 rfl rfl (R2 (AI (fun h=>nomatch h) (R2 (AI TV (AI TV (OL (OL (OL (OL (condI hF (fun hF=>?_) (fun hF=>?_))))))))))))))
 ·refine OL ?_
  obtain ⟨r4,hr4,hF⟩ := bindE hF
  refine OL (AI f212_in (callV0 (callI C212 ((i64.wrap r3.1),r3.2) r4 [] false C212_holds hr4 rfl rfl (R2 (AI (fun h=>nomatch h) (R2 (AI TV (AI TV (OL ?_)))))))))
  have hy := someE hF
  subst hy
  refine AI rfl (E4 [] (AI rfl (AI (AI rfl TV) TV)))
 refine OL (OL ?_)
 have hy := someE hF
 subst hy
 refine AI rfl (E4 [] (AI rfl (AI (AI rfl TV) TV)))
theorem C202_holds : C202.Holds Tryz.prog 202 := holds_of_vc tab_ok mixed (fn := Tryz.f202) (by kernel_rfl) rfl C202 (fun x y hF=>C202_vc x.1 x.2 y hF)
theorem f202_in : InP 202 := ⟨Tryz.f202,by kernel_rfl,by kernel_rfl,by kernel_rfl⟩
def f176 (s_top:Int) (s_low_Hi:Int) (s_low_Lo:Int) (a:Int) (b:Int) : Option (Int×Int×Int) :=
 bindF (f202 a b) fun q4_13 =>
 bindF (add64 s_low_Lo q4_13.2 (0:Int)) fun q1_7 =>
 bindF (add64 (u64.wrap s_low_Hi) (u64.wrap q4_13.1) q1_7.2) fun q2_10 =>
 some ((i64.wrap (s_top + (i64.wrap ((Int.fdiv q4_13.1 (2 ^ min (Int.toNat (63:Int)) (IntKind.bits IntKind.i64))) + (i64.wrap q2_10.2))))),(i64.wrap q2_10.1),q1_7.1)
def C176 : Con where
 X := Int×Int×Int×Int×Int
 Y := Int×Int×Int
 e := 1
 args x := [P0 0 0,.dat T1 x.2.2.2.1,.dat T1 x.2.2.2.2]
 hin x := [(0,.cells [(.d T1 x.1),(.d T1 x.2.1),(.d T10 x.2.2.1)])]
 F x := f176 x.1 x.2.1 x.2.2.1 x.2.2.2.1 x.2.2.2.2
 ret y := []
 hout y := [(0,.cells [(.d T1 y.1),(.d T1 y.2.1),(.d T10 y.2.2)])]
 nout := 1
theorem C176_vc (s_top:Int) (s_low_Hi:Int) (s_low_Lo:Int) (a:Int) (b:Int) (y : Int×Int×Int) (hF : f176 s_top s_low_Hi s_low_Lo a b = some y) : vc Tryz.prog tab Tryz.f176.ntmps 1 (match Tryz.f176.body with | some c=>c | none=>.skip) (retK tab C176 Tryz.f176.results.toList y) (C176.shIn (s_top,s_low_Hi,s_low_Lo,a,b)).st := by
 unfold f176 at hF
 refine OL ?_
 obtain ⟨q4_13,hq4_13,hF⟩ := bindE hF
 refine OL (AI f202_in (callV0 (callI C202 (a,b) q4_13 [] false C202_holds hq4_13 rfl rfl (R2 (AI (fun h=>nomatch h) (R2 (AI TV (AI TV (OL (OL (EI (.take 0 (.take 1 (.take 2 (.take 3 (.take 4 (.take 5 (.take 6 (.alt 7 (.take 8 (.take 9 (.take 10 (.take 11 (.take 12 .done))))) .done)))))))) (EI [] (EI [] (AI rfl (AI TV ?_)))))))))))))))
 obtain ⟨q1_7,hq1_7,hF⟩ := bindE hF
 refine OQ ⟨ext3 add64,[q1_7.1,q1_7.2],add64_ok,AI (ext3I hq1_7) ?_⟩
 refine OL (EI (.take 0 (.take 1 (.take 2 (.take 3 (.take 4 (.take 5 (.take 6 (.take 7 (.take 8 (.take 9 (.alt 10 (.take 11 (.take 12 (.take 13 (.take 14 (.take 15 .done))))) .done))))))))))) (EI [] (EI [] (AI rfl (AI TV ?_)))))
 obtain ⟨q2_10,hq2_10,hF⟩ := bindE hF
 refine OQ ⟨ext3 add64,[q2_10.1,q2_10.2],add64_ok,AI (ext3I hq2_10) ?_⟩
 refine OL (OL (EI (.take 0 (.take 1 (.take 2 (.take 3 (.take 4 (.take 5 (.take 6 (.take 7 (.take 8 (.take 9 (.take 10 (.take 11 (.take 12 (.alt 13 .done .done)))))))))))))) (EI [(13,[0])] (EI [] (AI rfl (AI (by decide) (AI TV (OL ?_))))))))
 have hy := someE hF
 subst hy
 refine AI rfl (E4 [(0,some 0)] (AI rfl (AI TV (AI rfl TV))))
theorem C176_holds : C176.Holds Tryz.prog 176 := holds_of_vc tab_ok mixed (fn := Tryz.f176) (by kernel_rfl) rfl C176 (fun x y hF=>C176_vc x.1 x.2.1 x.2.2.1 x.2.2.2.1 x.2.2.2.2 y hF)
theorem f176_in : InP 176 := ⟨Tryz.f176,by kernel_rfl,by kernel_rfl,by kernel_rfl⟩
def f224 (a : Int×Int) (n:Int) : Option (Int×Int×Int×Int) :=
 bif (decide (n ≥ (64:Int))) then
 guardF (0 ≤ (i64.wrap (n - (64:Int)))) <|
 guardF (0 ≤ (i64.wrap ((64:Int) - (i64.wrap (n - (64:Int)))))) <|
 guardF (0 ≤ (i64.wrap (n - (64:Int)))) <|
 guardF (0 ≤ (i64.wrap ((64:Int) - (i64.wrap (n - (64:Int)))))) <|
 some ((Int.fdiv a.1 (2 ^ min (Int.toNat (63:Int)) (IntKind.bits IntKind.i64))),(u64.wrap (Int.fdiv a.1 (2 ^ min (Int.toNat (i64.wrap (n - (64:Int)))) (IntKind.bits IntKind.i64)))),(bitsOf IntKind.u64 (fun p q=>p ||| q) (u64.wrap ((u64.wrap a.1) * 2 ^ min (Int.toNat (i64.wrap ((64:Int) - (i64.wrap (n - (64:Int)))))) (IntKind.bits IntKind.u64))) (Int.fdiv a.2 (2 ^ min (Int.toNat (i64.wrap (n - (64:Int)))) (IntKind.bits IntKind.u64)))),(u64.wrap (a.2 * 2 ^ min (Int.toNat (i64.wrap ((64:Int) - (i64.wrap (n - (64:Int)))))) (IntKind.bits IntKind.u64))))
 else
 guardF (0 ≤ n) <|
 guardF (0 ≤ (i64.wrap ((64:Int) - n))) <|
 guardF (0 ≤ n) <|
 guardF (0 ≤ (i64.wrap ((64:Int) - n))) <|
 some ((Int.fdiv a.1 (2 ^ min (Int.toNat n) (IntKind.bits IntKind.i64))),(bitsOf IntKind.u64 (fun p q=>p ||| q) (u64.wrap ((u64.wrap a.1) * 2 ^ min (Int.toNat (i64.wrap ((64:Int) - n))) (IntKind.bits IntKind.u64))) (Int.fdiv a.2 (2 ^ min (Int.toNat n) (IntKind.bits IntKind.u64)))),(u64.wrap (a.2 * 2 ^ min (Int.toNat (i64.wrap ((64:Int) - n))) (IntKind.bits IntKind.u64))),(0:Int))
def C224 : Con where
 X := (Int×Int)×Int
 Y := Int×Int×Int×Int
 e := 0
 args x := [.dat T11 x.1,.dat T1 x.2]
 hin x := []
 F x := f224 x.1 x.2
 ret y := [.raw true [(.d T1 y.1),(.d T10 y.2.1)],.dat T10 y.2.2.1,.dat T10 y.2.2.2]
 hout y := []
 nout := 0
theorem C224_vc (a : Int×Int) (n:Int) (y : Int×Int×Int×Int) (hF : f224 a n = some y) : VC Tryz.f224 C224 (a,n) y := by
 unfold f224 at hF
 refine OL (OL (EI (.take 0 (.take 1 (.take 2 (.take 3 (.take 4 (.take 5 (.take 6 .done))))))) (EI [] (EI [] (AI rfl (OL (OL (condI hF (fun hF=>?_) (fun hF=>?_)))))))))
 ·refine OL (OL (EI (.take 0 (.take 1 (.take 2 (.take 3 (.take 4 (.take 5 (.take 6 (.take 7 (.take 8 (.alt 9 (.alt 10 .done .done) .done)))))))))) (EI [] (EI [] (AI rfl (AI (by decide) (guardI hF (fun hF=>?_))))))))
  refine AI TV (AI TV (OL (OL (EI (.take 0 (.take 1 (.take 2 (.take 3 (.take 4 (.take 5 (.take 6 (.take 7 (.take 8 (.take 9 (.take 10 (.take 11 (.take 12 (.alt 13 (.take 14 (.take 15 .done)) .done)))))))))))))) (EI [] (EI [] (AI rfl (guardI hF (fun hF=>?_)))))))))
  refine guardI hF (fun hF=>?_)
  refine guardI hF (fun hF=>?_)
  refine AI TV (OL ?_)
  have hy := someE hF
  subst hy
  refine AI rfl (E4 [] (R3 (AI (AI rfl TV) TV)))
 refine OL (EI (.take 0 (.take 1 (.take 2 (.take 3 (.take 4 (.take 5 (.take 6 (.take 7 (.take 8 (.take 9 (.take 10 (.take 11 (.take 12 (.take 13 (.take 14 (.take 15 (.take 16 (.alt 17 (.take 18 (.take 19 .done)) .done)))))))))))))))))) (EI [] (EI [] (AI rfl (guardI hF (fun hF=>?_))))))
 refine guardI hF (fun hF=>?_)
 refine guardI hF (fun hF=>?_)
 refine guardI hF (fun hF=>?_)
 refine AI TV (OL ?_)
 have hy := someE hF
 subst hy
 refine AI rfl (E4 [] (R3 (AI (AI rfl TV) TV)))
theorem C224_holds : C224.Holds Tryz.prog 224 := holds_of_vc tab_ok mixed (fn := Tryz.f224) (by kernel_rfl) rfl C224 (fun x y hF=>C224_vc x.1 x.2 y hF)
theorem f224_in : InP 224 := ⟨Tryz.f224,by kernel_rfl,by kernel_rfl,by kernel_rfl⟩
def f181 (n:Int) : Option (Int×Int) :=
 some ((Int.fdiv n (2 ^ min (Int.toNat (63:Int)) (IntKind.bits IntKind.i64))),(u64.wrap n))
def C181 : Con where
 X := Int
 Y := Int×Int
 e := 0
 args x := [.dat T1 x]
 hin x := []
 F x := f181 x
 ret y := [.raw true [(.d T1 y.1),(.d T10 y.2)]]
 hout y := []
 nout := 0
theorem C181_vc (n:Int) (y : Int×Int) (hF : f181 n = some y) : VC Tryz.f181 C181 n y := by
 unfold f181 at hF
 refine OL (OL (AI (by decide) (OL ?_)))
 have hy := someE hF
 subst hy
 refine AI rfl (E4 [] (AI rfl (AI (AI rfl TV) TV)))
theorem C181_holds : C181.Holds Tryz.prog 181 := holds_of_vc tab_ok mixed (fn := Tryz.f181) (by kernel_rfl) rfl C181 (fun x y hF=>C181_vc x y hF)
theorem f181_in : InP 181 := ⟨Tryz.f181,by kernel_rfl,by kernel_rfl,by kernel_rfl⟩
def f180 (a : Int×Int) (b : Int×Int) : Option (Int×Int) :=
 bindF (add64 a.2 b.2 (0:Int)) fun r1 =>
 bindF (add64 (u64.wrap a.1) (u64.wrap b.1) r1.2) fun r2 =>
 some ((i64.wrap r2.1),r1.1)
def C180 : Con where
 X := (Int×Int)×(Int×Int)
 Y := Int×Int
 e := 0
 args x := [.dat T11 x.1,.dat T11 x.2]
 hin x := []
 F x := f180 x.1 x.2
 ret y := [.raw true [(.d T1 y.1),(.d T10 y.2)]]
 hout y := []
 nout := 0
theorem C180_vc (a : Int×Int) (b : Int×Int) (y : Int×Int) (hF : f180 a b = some y) : VC Tryz.f180 C180 (a,b) y := by
 unfold f180 at hF
 refine OL (OL ?_)
 obtain ⟨r1,hr1,hF⟩ := bindE hF
 refine OQ ⟨ext3 add64,[r1.1,r1.2],add64_ok,AI (ext3I hr1) ?_⟩
 refine OL ?_
 obtain ⟨r2,hr2,hF⟩ := bindE hF
 refine OQ ⟨ext3 add64,[r2.1,r2.2],add64_ok,AI (ext3I hr2) ?_⟩
 refine OL (OL ?_)
 have hy := someE hF
 subst hy
 refine AI rfl (E4 [] (AI rfl (AI (AI rfl TV) TV)))
theorem C180_holds : C180.Holds Tryz.prog 180 := holds_of_vc tab_ok mixed (fn := Tryz.f180) (by kernel_rfl) rfl C180 (fun x y hF=>C180_vc x.1 x.2 y hF)
theorem f180_in : InP 180 := ⟨Tryz.f180,by kernel_rfl,by kernel_rfl,by kernel_rfl⟩
def f203_j1 (n:Int) : Option (Sum Unit Unit) :=
 bif (decide (n < (1:Int))) then
 some (Sum.inr ())
 else
 bif (decide (n > (126:Int))) then
 some (Sum.inr ())
 else
 some (Sum.inl ())
def f203_j2 (q5_3 : Int×Int×Int×Int) : Option Bool :=
 bif (decide (q5_3.2.2.1 > (9223372036854775808:Int))) then
 some true
 else
 bif (q5_3.2.2.1 == (9223372036854775808:Int)) then
 bif (decide (q5_3.2.2.2 > (0:Int))) then
 some true
 else
 some ((bitsOf IntKind.u64 (fun p q=>p &&& q) q5_3.2.1 (1:Int)) == (1:Int))
 else
 some false
def f203 (a : Int×Int) (n:Int) : Option (Int×Int) :=
 bindF (f203_j1 n) fun z1 =>
 sumF z1 (fun z1a =>
 bindF (f224 (a.1,a.2) n) fun q5_3 =>
 bindF (f203_j2 q5_3) fun z2 =>
 bif z2 then
 bindF (f181 (1:Int)) fun q5_1 =>
 bindF (f180 (q5_3.1,q5_3.2.1) (q5_1.1,q5_1.2)) fun q5_2 =>
 some (q5_2.1,q5_2.2)
 else
 some (q5_3.1,q5_3.2.1)) (fun z1b =>
 some (a.1,a.2))
def C203 : Con where
 X := (Int×Int)×Int
 Y := Int×Int
 e := 0
 args x := [.dat T11 x.1,.dat T1 x.2]
 hin x := []
 F x := f203 x.1 x.2
 ret y := [.raw true [(.d T1 y.1),(.d T10 y.2)]]
 hout y := []
 nout := 0
theorem C203_vc (a : Int×Int) (n:Int) (y : Int×Int) (hF : f203 a n = some y) : VC Tryz.f203 C203 (a,n) y := by
 unfold f203 at hF
 refine OL ?_
 obtain ⟨z1,hz1,hF⟩ := bindE hF
 refine OQ ⟨Sum.elim (fun z1a=>[(0,⟨[(1,.dat T1 n),(2,P0 0 0),(4,P0 1 0)],[(0,.cells [(.d T1 a.1),(.d T10 a.2)]),(1,.cells [(.d T1 (0:Int)),(.d T10 (0:Int))])],2⟩)]) (fun z1b=>[(1,⟨[(4,P0 0 0)],[(0,.cells [(.d T1 a.1),(.d T10 a.2)])],1⟩)]) z1,?_,?_⟩
 ·have hF := hz1
  clear hz1
  unfold f203_j1 at hF
  refine OL (condN hF (fun hF=>?_) (fun hF=>?_))
  ·refine gdYF (condF (condI hF (fun hF=>?_) (fun hF=>?_)))
   ·refine OL (OL ?_)
    have hz := someE hF
    subst hz
    refine E4 [(0,some 1)] (AI rfl (AI (AI rfl TV) (AI rfl TV)))
   have hz := someE hF
   subst hz
   refine E4 [(0,some 0),(1,some 1)] (R2 (AI (R2 TV) (R2 TV)))
  refine gdNF (condT (condT (OL (OL ?_))))
  have hz := someE hF
  subst hz
  refine E4 [(0,some 1)] (AI rfl (AI (AI rfl TV) (AI rfl TV)))
 rcases z1 with z1a | z1b
 ·dsimp only [sumF] at hF
  refine AI (OL ?_) TV
  obtain ⟨q5_3,hq5_3,hF⟩ := bindE hF
  refine OL (AI f224_in (callV0 (callI C224 ((a.1,a.2),n) q5_3 [] false C224_holds hq5_3 rfl rfl (R3 (AI (fun h=>nomatch h) (R2 (AI TV (AI TV (OL (OL ?_))))))))))
  obtain ⟨z2,hz2,hF⟩ := bindE hF
  refine OQ ⟨[(0,⟨[(4,P0 0 0),(5,P0 1 0),(37,.dat .bool z2)],[(0,.cells [(.d T1 (0:Int)),(.d T10 (0:Int))]),(1,.cells [(.d T1 q5_3.1),(.d T10 q5_3.2.1)])],2⟩)],?_,?_⟩
  ·have hF := hz2
   clear hz2
   unfold f203_j2 at hF
   refine condN hF (fun hF=>?_) (fun hF=>?_)
   ·refine gdYF (gdYF (condI hF (fun hF=>?_) (fun hF=>?_)))
    ·refine gdYT (gdYT (condN hF (fun hF=>?_) (fun hF=>?_)))
     ·refine gdYF (gdYF (gdYF (gdYT (condF (gdYF (condT (condF ?_)))))))
      have hz := someE hF
      subst hz
      refine E4 [(0,some 1),(1,some 2)] (R2 (AI (R2 TV) (R2 TV)))
     refine gdNF (gdNF (gdNF (gdYT (condT (gdYF (condT (condF ?_)))))))
     have hz := someE hF
     subst hz
     refine E4 [(0,some 1),(1,some 2)] (R2 (AI (R2 TV) (R2 TV)))
    refine gdNT (gdNT (gdNT (gdYF (condF (condF ?_)))))
    have hz := someE hF
    subst hz
    refine E4 [(0,some 1),(1,some 2)] (R2 (AI (R2 TV) (R2 TV)))
   refine gdNF (gdNF (gdNF (condT ?_)))
   have hz := someE hF
   subst hz
   refine E4 [(0,some 1),(1,some 2)] (R2 (AI (R2 TV) (R2 TV)))
  refine AI (condI hF (fun hF=>?_) (fun hF=>?_)) TV
  ·refine OL (EI (.take 0 (.alt 1 (.alt 2 (.alt 3 .done .done) .done) .done)) (EI [] (EI [] (AI rfl (AI TV ?_)))))
   obtain ⟨q5_1,hq5_1,hF⟩ := bindE hF
   refine OL (AI f181_in (callV0 (callI C181 (1:Int) q5_1 [] false C181_holds hq5_1 rfl rfl (AI rfl (AI (fun h=>nomatch h) (R2 (AI TV (AI TV (AI TV ?_)))))))))
   obtain ⟨q5_2,hq5_2,hF⟩ := bindE hF
   refine OL (AI f180_in (callV0 (callI C180 ((q5_3.1,q5_3.2.1),(q5_1.1,q5_1.2)) q5_2 [] false C180_holds hq5_2 rfl rfl (R4 (AI (fun h=>nomatch h) (R2 (AI TV (AI TV (AI TV (OL ?_))))))))))
   have hy := someE hF
   subst hy
   refine AI rfl (E4 [] (AI rfl (AI (AI rfl TV) TV)))
  refine OL (OL ?_)
  have hy := someE hF
  subst hy
  refine AI rfl (E4 [] (AI rfl (AI (AI rfl TV) TV)))
 dsimp only [sumF] at hF
 refine AI ?_ TV
 have hy := someE hF
 subst hy
 refine AI rfl (E4 [] (AI rfl (AI (AI rfl TV) TV)))
theorem C203_holds : C203.Holds Tryz.prog 203 := holds_of_vc tab_ok mixed (fn := Tryz.f203) (by kernel_rfl) rfl C203 (fun x y hF=>C203_vc x.1 x.2 y hF)
theorem f203_in : InP 203 := ⟨Tryz.f203,by kernel_rfl,by kernel_rfl,by kernel_rfl⟩
def f182_j3 (a : Int×Int) : Option Bool :=
 bif (decide (a.1 > (0:Int))) then
 some true
 else
 bif (a.1 == (0:Int)) then
 some (decide (a.2 ≥ (9223372036854775808:Int)))
 else
 some false
def f182_j2 (a : Int×Int) : Option (Sum Unit Int) :=
 bindF (f182_j3 a) fun z3 =>
 bif z3 then
 some (Sum.inr (9223372036854775807:Int))
 else
 bif (decide (a.1 < (-1:Int))) then
 some (Sum.inr (-9223372036854775808:Int))
 else
 bif (a.1 == (-1:Int)) then
 bif (decide (a.2 < (9223372036854775808:Int))) then
 some (Sum.inr (-9223372036854775808:Int))
 else
 some (Sum.inl ())
 else
 some (Sum.inl ())
def f182 (a : Int×Int) : Option Int :=
 bindF (f182_j2 a) fun z2 =>
 sumF z2 (fun z2a =>
 some (i64.wrap a.2)) (fun z2b =>
 some z2b)
def C182 : Con where
 X := Int×Int
 Y := Int
 e := 0
 args x := [.dat T11 x]
 hin x := []
 F x := f182 x
 ret y := [.dat T1 y]
 hout y := []
 nout := 0
theorem C182_vc (a : Int×Int) (y:Int) (hF : f182 a = some y) : VC Tryz.f182 C182 a y := by
 unfold f182 at hF
 refine OL ?_
 obtain ⟨z2,hz2,hF⟩ := bindE hF
 refine OQ ⟨Sum.elim (fun z2a=>[(0,⟨[(1,P0 0 0)],[(0,.cells [(.d T1 a.1),(.d T10 a.2)])],1⟩)]) (fun z2b=>[(1,⟨[(2,.dat T1 z2b)],[],0⟩)]) z2,?_,?_⟩
 ·have hF := hz2
  clear hz2
  unfold f182_j2 at hF
  obtain ⟨z3,hz3,hF⟩ := bindE hF
  refine OQ ⟨[(0,⟨[(1,P0 0 0),(3,.dat .bool z3)],[(0,.cells [(.d T1 a.1),(.d T10 a.2)])],1⟩)],?_,?_⟩
  ·have hF := hz3
   clear hz3
   unfold f182_j3 at hF
   refine condN hF (fun hF=>?_) (fun hF=>?_)
   ·refine gdYF (gdYF (gdYF (condI hF (fun hF=>?_) (fun hF=>?_))))
    ·refine gdYT (gdYT (gdYF (condT (condF ?_))))
     have hz := someE hF
     subst hz
     refine E4 [(0,some 0)] (R2 (AI (AI rfl TV) (AI rfl TV)))
    refine gdNT (gdNT (gdYF (condF (condF ?_))))
    have hz := someE hF
    subst hz
    refine E4 [(0,some 0)] (R2 (AI (AI rfl TV) (AI rfl TV)))
   refine gdNF (gdNF (gdNF (gdNF (condT ?_))))
   have hz := someE hF
   subst hz
   refine E4 [(0,some 0)] (R2 (AI (AI rfl TV) (AI rfl TV)))
  refine AI (condI hF (fun hF=>?_) (fun hF=>?_)) TV
  ·refine OL ?_
   have hz := someE hF
   subst hz
   refine E4 [] (R2 (AI TV TV))
  refine OL (condN hF (fun hF=>?_) (fun hF=>?_))
  ·refine gdYF (gdYF (gdYF (condI hF (fun hF=>?_) (fun hF=>?_))))
   ·refine gdYT (gdYT (gdYF (condT (condF (condI hF (fun hF=>?_) (fun hF=>?_))))))
    ·refine OL ?_
     have hz := someE hF
     subst hz
     refine E4 [] (R2 (AI TV TV))
    have hz := someE hF
    subst hz
    refine E4 [(0,some 0)] (AI rfl (AI (AI rfl TV) (AI rfl TV)))
   refine gdNT (gdNT (gdYF (condF (condF (condF ?_)))))
   have hz := someE hF
   subst hz
   refine E4 [(0,some 0)] (AI rfl (AI (AI rfl TV) (AI rfl TV)))
  refine gdNF (gdNF (gdNF (gdNF (condT (condT (OL ?_))))))
  have hz := someE hF
  subst hz
  refine E4 [] (R2 (AI TV TV))
 rcases z2 with z2a | z2b
 ·dsimp only [sumF] at hF
  refine AI (OL ?_) TV
  have hy := someE hF
  subst hy
  refine AI rfl (E4 [] (R2 (AI TV TV)))
 dsimp only [sumF] at hF
 refine AI ?_ TV
 have hy := someE hF
 subst hy
 refine AI rfl (E4 [] (R2 (AI TV TV)))
theorem C182_holds : C182.Holds Tryz.prog 182 := holds_of_vc tab_ok mixed (fn := Tryz.f182) (by kernel_rfl) rfl C182 (fun x y hF=>C182_vc x y hF)
theorem f182_in : InP 182 := ⟨Tryz.f182,by kernel_rfl,by kernel_rfl,by kernel_rfl⟩
def f177 (s_top:Int) (s_low_Hi:Int) (s_low_Lo:Int) (n:Int) : Option (Int×Int×Int×Int) :=
 bif (s_top == (Int.fdiv s_low_Hi (2 ^ min (Int.toNat (63:Int)) (IntKind.bits IntKind.i64)))) then
 bindF (f203 (s_low_Hi,s_low_Lo) n) fun q1_11 =>
 bindF (f182 (q1_11.1,q1_11.2)) fun r1 =>
 some (r1,s_top,s_low_Hi,s_low_Lo)
 else
 bif (decide (s_top < (0:Int))) then
 some ((-9223372036854775808:Int),s_top,s_low_Hi,s_low_Lo)
 else
 some ((9223372036854775807:Int),s_top,s_low_Hi,s_low_Lo)
def C177 : Con where
 X := Int×Int×Int×Int
 Y := Int×Int×Int×Int
 e := 1
 args x := [P0 0 0,.dat T1 x.2.2.2]
 hin x := [(0,.cells [(.d T1 x.1),(.d T1 x.2.1),(.d T10 x.2.2.1)])]
 F x := f177 x.1 x.2.1 x.2.2.1 x.2.2.2
 ret y := [.dat T1 y.1]
 hout y := [(0,.cells [(.d T1 y.2.1),(.d T1 y.2.2.1),(.d T10 y.2.2.2)])]
 nout := 1
theorem C177_vc (s_top:Int) (s_low_Hi:Int) (s_low_Lo:Int) (n:Int) (y : Int×Int×Int×Int) (hF : f177 s_top s_low_Hi s_low_Lo n = some y) : vc Tryz.prog tab Tryz.f177.ntmps 1 (match Tryz.f177.body with | some c=>c | none=>.skip) (retK tab C177 Tryz.f177.results.toList y) (C177.shIn (s_top,s_low_Hi,s_low_Lo,n)).st := by
 unfold f177 at hF
 refine OL (OL (OL (EI (.take 0 (.take 1 (.take 2 (.take 3 (.take 4 (.take 5 (.take 6 (.take 7 (.take 8 (.take 9 (.take 10 (.take 11 .done)))))))))))) (EI [] (EI [] (AI rfl (AI (by decide) (condI hF (fun hF=>?_) (fun hF=>?_)))))))))
 ·refine OL ?_
  obtain ⟨q1_11,hq1_11,hF⟩ := bindE hF
  refine OL (AI f203_in (callV0 (callI C203 ((s_low_Hi,s_low_Lo),n) q1_11 [] false C203_holds hq1_11 rfl rfl (R3 (AI (fun h=>nomatch h) (R2 (AI TV (AI TV ?_))))))))
  obtain ⟨r1,hr1,hF⟩ := bindE hF
  refine OL (AI f182_in (callV0 (callI C182 (q1_11.1,q1_11.2) r1 [] false C182_holds hr1 rfl rfl (R2 (AI (fun h=>nomatch h) (R2 (AI TV (AI TV ?_))))))))
  have hy := someE hF
  subst hy
  refine AI rfl (E4 [(0,some 0)] (R2 (AI TV (AI rfl TV))))
 refine OL (condI hF (fun hF=>?_) (fun hF=>?_))
 ·refine OL ?_
  have hy := someE hF
  subst hy
  refine AI rfl (E4 [(0,some 0)] (R2 (AI TV (AI rfl TV))))
 refine OL ?_
 have hy := someE hF
 subst hy
 refine AI rfl (E4 [(0,some 0)] (R2 (AI TV (AI rfl TV))))
theorem C177_holds : C177.Holds Tryz.prog 177 := holds_of_vc tab_ok mixed (fn := Tryz.f177) (by kernel_rfl) rfl C177 (fun x y hF=>C177_vc x.1 x.2.1 x.2.2.1 x.2.2.2 y hF)
theorem f177_in : InP 177 := ⟨Tryz.f177,by kernel_rfl,by kernel_rfl,by kernel_rfl⟩
end Go.Proofs
