import Derived.Test.YtdnlicefpmiljaaGreatDoorModelCountsF1
set_option linter.unusedVariables false
set_option maxRecDepth 100000
set_option maxHeartbeats 8000000
namespace Go.Proofs
open Go.AM
-- carousel/shape.Spread
def f196_j13 (d : List Int) (big : List Int) (q11_19 : List Int) (v23 : Int) (rest : Int) (i : Int) (l1_2 : List Int) : Option (List Int) :=
  guardF (0 ≤ (IntKind.i64.wrap (i - (IntKind.i64.wrap ((List.length big : Int) - (List.length d : Int))))) ∧ (IntKind.i64.wrap (i - (IntKind.i64.wrap ((List.length big : Int) - (List.length d : Int))))) < (List.length d : Int)) <|
  bif (decide ((rd (0 : Int) d (IntKind.i64.wrap (i - (IntKind.i64.wrap ((List.length big : Int) - (List.length d : Int)))))) > (1 : Int))) then
    guardF (0 ≤ v23 ∧ v23 < (List.length l1_2 : Int)) <|
    guardF (0 ≤ i ∧ i < (List.length big : Int)) <|
    guardF ((rd (0 : Int) big i) ≠ 0) <|
    guardF (0 ≤ (IntKind.i64.wrap (i - (IntKind.i64.wrap ((List.length big : Int) - (List.length d : Int))))) ∧ (IntKind.i64.wrap (i - (IntKind.i64.wrap ((List.length big : Int) - (List.length d : Int))))) < (List.length q11_19 : Int)) <|
    guardF (0 ≤ v23 ∧ v23 < (List.length l1_2 : Int)) <|
    some (List.set l1_2 (Int.toNat v23) (IntKind.i64.wrap ((rd (0 : Int) l1_2 v23) + (IntKind.i64.wrap ((Int.tmod rest (rd (0 : Int) big i)) * (rd (0 : Int) q11_19 (IntKind.i64.wrap (i - (IntKind.i64.wrap ((List.length big : Int) - (List.length d : Int)))))))))))
  else
    some l1_2
def f196_l12 (d : List Int) (big : List Int) (q11_19 : List Int) (v23 : Int) (go : (Int × Int × (List Int)) → Option (List Int)) (rest : Int) (i : Int) (l1_2 : List Int) : Option (List Int) :=
  bif (decide (i ≥ (IntKind.i64.wrap ((List.length big : Int) - (List.length d : Int))))) then
    bindF (f196_j13 d big q11_19 v23 rest i l1_2) fun z14 =>
    guardF (0 ≤ i ∧ i < (List.length big : Int)) <|
    guardF ((rd (0 : Int) big i) ≠ 0) <|
    go ((IntKind.i64.wrap (Int.tdiv rest (rd (0 : Int) big i))), (IntKind.i64.wrap (i - (1 : Int))), z14)
  else
    some l1_2
def f196_l9 (d : List Int) (big : List Int) (q11_19 : List Int) (r1 : Int) (go : (Int × (List Int)) → Option (List Int)) (v23 : Int) (l1 : List Int) : Option (List Int) :=
  bif (decide (v23 < (List.length (List.replicate (Int.toNat r1) (0 : Int)) : Int))) then
    bindF (loopF (fun go x => f196_l12 d big q11_19 v23 go x.1 x.2.1 x.2.2) fuelN (v23, (IntKind.i64.wrap ((List.length big : Int) - (1 : Int))), l1)) fun z13 =>
    go ((IntKind.i64.wrap (v23 + (1 : Int))), z13)
  else
    some l1
def f196 (d : List Int) (big : List Int) : Option (List Int) :=
  bindF (f179 d) fun q11_19 =>
  bindF (f117 big) fun r1 =>
  guardF (0 ≤ r1 ∧ r1 ≤ r1 ∧ Int.toNat r1 * 8 ≤ 140737488355328) <|
  bindF (loopF (fun go x => f196_l9 d big q11_19 r1 go x.1 x.2) fuelN ((0 : Int), (List.replicate (Int.toNat r1) (0 : Int)))) fun z10 =>
  some z10
def C196 : Con where
  X := (List Int) × (List Int)
  Y := List Int
  e := 0
  args x := [.dat (.sl (.int .i64)) x.1, .dat (.sl (.int .i64)) x.2]
  hin x := []
  F x := f196 x.1 x.2
  ret y := [.raw false [(.osl 0)]]
  hout y := [(0, .arr 3 (.int .i64) y)]
  nout := 1
theorem C196_vc (d : List Int) (big : List Int) (y : List Int) (hF : f196 d big = some y) : vc Tryz.prog tab Tryz.f196.ntmps 0 (match Tryz.f196.body with | some c => c | none => .skip) (retK tab C196 Tryz.f196.results.toList y) (C196.shIn (d, big)).st := by
  unfold f196 at hF
  refine Or.inl ?_
  refine Or.inl ?_
  obtain ⟨q11_19, hq11_19, hF⟩ := bindE hF
  refine Or.inl (And.intro f179_in (callV0 (callI C179 d q11_19 [] false C179_holds hq11_19 rfl rfl ?_)))
  refine (And.intro rfl (And.intro (fun h => nomatch h) (And.intro rfl (And.intro rfl (And.intro trivial (And.intro trivial ?_))))))
  refine Or.inl ?_
  obtain ⟨r1, hr1, hF⟩ := bindE hF
  refine Or.inl (And.intro f117_in (callV0 (callI C117 big r1 [] false C117_holds hr1 rfl rfl ?_)))
  refine (And.intro rfl (And.intro (fun h => nomatch h) (And.intro rfl (And.intro rfl (And.intro trivial (And.intro trivial ?_))))))
  refine guardI hF (fun hF => ?_)
  refine Or.inl ?_
  refine Or.inl ?_
  obtain ⟨z10, hz10, hF⟩ := bindE hF
  refine loopI (Int × (List Int)) (List Int) (fun x => ⟨[(0, .dat (.sl (.int .i64)) d), (1, .dat (.sl (.int .i64)) big), (5, .raw false [(.osl 0)]), (6, .dat (.int .i64) (IntKind.i64.wrap ((List.length big : Int) - (List.length d : Int)))), (7, .raw false [(.osl 1)]), (22, .dat (.int .i64) (List.length (List.replicate (Int.toNat r1) (0 : Int)) : Int)), (23, .dat (.int .i64) x.1)], [(0, .arr 3 (.int .i64) q11_19), (1, .arr 3 (.int .i64) x.2)], 2⟩) (fun z => [(2, ⟨[(7, .raw false [(.osl 0)])], [(0, .arr 3 (.int .i64) z)], 1⟩)]) (loopF (fun go x => f196_l9 d big q11_19 r1 go x.1 x.2)) fuelN ((0 : Int), (List.replicate (Int.toNat r1) (0 : Int))) z10 (And.intro hz10 (And.intro (Exists.intro [] (Exists.intro [] (Exists.intro [] (Exists.intro [] (Exists.intro [(0, some 0), (1, some 1)] (And.intro rfl (And.intro rfl (And.intro rfl (And.intro rfl (And.intro rfl (And.intro rfl (And.intro (And.intro rfl (And.intro rfl trivial)) (And.intro rfl (And.intro rfl trivial)))))))))))))) (And.intro (fun _ _ h => loopZ h) (And.intro (fun m => curI (fun v23 => fun l1 z hF => ?_)) ?_))))
  · have hF : f196_l9 d big q11_19 r1 (loopF (fun go x => f196_l9 d big q11_19 r1 go x.1 x.2) m) v23 l1 = some z := hF
    unfold f196_l9 at hF
    refine Or.inl ?_
    refine Or.inl ?_
    refine condI hF (fun hF => ?_) (fun hF => ?_)
    · refine Or.inl ?_
      refine Or.inl ?_
      refine Or.inl ?_
      refine Or.inl ?_
      obtain ⟨z13, hz13, hF⟩ := bindE hF
      refine loopI (Int × Int × (List Int)) (List Int) (fun x => ⟨[(0, .dat (.sl (.int .i64)) d), (1, .dat (.sl (.int .i64)) big), (5, .raw false [(.osl 0)]), (6, .dat (.int .i64) (IntKind.i64.wrap ((List.length big : Int) - (List.length d : Int)))), (7, .raw false [(.osl 1)]), (8, .dat (.int .i64) v23), (9, .dat (.int .i64) x.1), (10, .dat (.int .i64) x.2.1), (22, .dat (.int .i64) (List.length (List.replicate (Int.toNat r1) (0 : Int)) : Int)), (23, .dat (.int .i64) v23)], [(0, .arr 3 (.int .i64) q11_19), (1, .arr 3 (.int .i64) x.2.2)], 2⟩) (fun z => [(4, ⟨[(0, .dat (.sl (.int .i64)) d), (1, .dat (.sl (.int .i64)) big), (5, .raw false [(.osl 0)]), (6, .dat (.int .i64) (IntKind.i64.wrap ((List.length big : Int) - (List.length d : Int)))), (7, .raw false [(.osl 1)]), (22, .dat (.int .i64) (List.length (List.replicate (Int.toNat r1) (0 : Int)) : Int)), (23, .dat (.int .i64) v23)], [(0, .arr 3 (.int .i64) q11_19), (1, .arr 3 (.int .i64) z)], 2⟩)]) (loopF (fun go x => f196_l12 d big q11_19 v23 go x.1 x.2.1 x.2.2)) fuelN (v23, (IntKind.i64.wrap ((List.length big : Int) - (1 : Int))), l1) z13 (And.intro hz13 (And.intro (Exists.intro [] (Exists.intro [] (Exists.intro [] (Exists.intro [] (Exists.intro [(0, some 0), (1, some 1)] (And.intro rfl (And.intro rfl (And.intro rfl (And.intro rfl (And.intro rfl (And.intro rfl (And.intro rfl (And.intro rfl (And.intro rfl (And.intro (And.intro rfl (And.intro rfl trivial)) (And.intro rfl (And.intro rfl trivial))))))))))))))))) (And.intro (fun _ _ h => loopZ h) (And.intro (fun m => curI (fun rest => curI (fun i => fun l1_2 z hF => ?_))) ?_))))
      · have hF : f196_l12 d big q11_19 v23 (loopF (fun go x => f196_l12 d big q11_19 v23 go x.1 x.2.1 x.2.2) m) rest i l1_2 = some z := hF
        unfold f196_l12 at hF
        refine Or.inl ?_
        refine Or.inl ?_
        refine condI hF (fun hF => ?_) (fun hF => ?_)
        · refine Or.inl ?_
          obtain ⟨z14, hz14, hF⟩ := bindE hF
          refine Or.inr ⟨[(0, ⟨[(0, .dat (.sl (.int .i64)) d), (1, .dat (.sl (.int .i64)) big), (5, .raw false [(.osl 0)]), (6, .dat (.int .i64) (IntKind.i64.wrap ((List.length big : Int) - (List.length d : Int)))), (7, .raw false [(.osl 1)]), (8, .dat (.int .i64) v23), (9, .dat (.int .i64) rest), (10, .dat (.int .i64) i), (22, .dat (.int .i64) (List.length (List.replicate (Int.toNat r1) (0 : Int)) : Int)), (23, .dat (.int .i64) v23)], [(0, .arr 3 (.int .i64) q11_19), (1, .arr 3 (.int .i64) z14)], 2⟩)], ?_, ?_⟩
          · have hF := hz14
            clear hz14
            unfold f196_j13 at hF
            refine Or.inl ?_
            refine guardI hF (fun hF => ?_)
            refine condI hF (fun hF => ?_) (fun hF => ?_)
            · refine Exists.intro (.take 0 (.take 1 (.take 2 (.take 3 (.take 4 (.take 5 (.take 6 (.take 7 (.take 8 (.take 9 (.take 10 (.take 11 (.take 12 (.take 13 (.take 14 (.take 15 (.take 16 (.take 17 (.take 18 (.alt 19 .done .done)))))))))))))))))))) (Exists.intro [(19, [1])] (Exists.intro [] (And.intro rfl ?_)))
              refine guardI hF (fun hF => ?_)
              refine guardI hF (fun hF => ?_)
              refine guardI hF (fun hF => ?_)
              refine guardI hF (fun hF => ?_)
              refine guardI hF (fun hF => ?_)
              refine And.intro trivial ?_
              refine Or.inl ?_
              have hz := someE hF
              subst hz
              refine Exists.intro [] (Exists.intro [] (Exists.intro [] (Exists.intro [] (Exists.intro [(0, some 0), (1, some 1)] (And.intro rfl (And.intro rfl (And.intro rfl (And.intro rfl (And.intro rfl (And.intro rfl (And.intro rfl (And.intro rfl (And.intro rfl (And.intro (And.intro rfl (And.intro rfl trivial)) (And.intro rfl (And.intro rfl trivial))))))))))))))))
            · have hz := someE hF
              subst hz
              refine Exists.intro [] (Exists.intro [] (Exists.intro [] (Exists.intro [] (Exists.intro [(0, some 0), (1, some 1)] (And.intro rfl (And.intro rfl (And.intro rfl (And.intro rfl (And.intro rfl (And.intro rfl (And.intro rfl (And.intro rfl (And.intro rfl (And.intro (And.intro rfl (And.intro rfl trivial)) (And.intro rfl (And.intro rfl trivial))))))))))))))))
          · refine And.intro ?_ trivial
            refine guardI hF (fun hF => ?_)
            refine guardI hF (fun hF => ?_)
            refine Exists.intro ((IntKind.i64.wrap (Int.tdiv rest (rd (0 : Int) big i))), (IntKind.i64.wrap (i - (1 : Int))), z14) (And.intro hF (Exists.intro [] (Exists.intro [] (Exists.intro [] (Exists.intro [] (Exists.intro [(0, some 0), (1, some 1)] (And.intro rfl (And.intro rfl (And.intro rfl (And.intro rfl (And.intro rfl (And.intro rfl (And.intro rfl (And.intro rfl (And.intro rfl (And.intro (And.intro rfl (And.intro rfl trivial)) (And.intro rfl (And.intro rfl trivial))))))))))))))))))
        · have hz := someE hF
          subst hz
          refine Exists.intro [] (Exists.intro [] (Exists.intro [] (Exists.intro [] (Exists.intro [(0, some 0), (1, some 1)] (And.intro rfl (And.intro rfl (And.intro rfl (And.intro rfl (And.intro rfl (And.intro rfl (And.intro (And.intro rfl (And.intro rfl trivial)) (And.intro rfl (And.intro rfl trivial)))))))))))))
      · refine And.intro ?_ trivial
        refine Exists.intro ((IntKind.i64.wrap (v23 + (1 : Int))), z13) (And.intro hF (Exists.intro [] (Exists.intro [] (Exists.intro [] (Exists.intro [] (Exists.intro [(0, some 0), (1, some 1)] (And.intro rfl (And.intro rfl (And.intro rfl (And.intro rfl (And.intro rfl (And.intro rfl (And.intro (And.intro rfl (And.intro rfl trivial)) (And.intro rfl (And.intro rfl trivial)))))))))))))))
    · have hz := someE hF
      subst hz
      refine Exists.intro [] (Exists.intro [] (Exists.intro [] (Exists.intro [] (Exists.intro [(0, some 1)] (And.intro rfl (And.intro (And.intro rfl trivial) (And.intro rfl trivial)))))))
  · refine And.intro ?_ trivial
    refine Or.inl ?_
    have hy := someE hF
    subst hy
    refine And.intro rfl (Exists.intro [] (Exists.intro [] (Exists.intro [] (Exists.intro [] (Exists.intro [(0, some 0)] (And.intro rfl (And.intro (And.intro rfl trivial) (And.intro rfl trivial))))))))
theorem C196_holds : C196.Holds Tryz.prog 196 := holds_of_vc tab_ok mixed (fn := Tryz.f196) (by kernel_rfl) rfl C196 (fun x y hF => C196_vc x.1 x.2 y hF)
theorem f196_in : ∃ fn, Tryz.prog.funcs[196]? = some fn ∧ fn.body.isSome = true ∧ (fn.name == "runtime.NumGoroutine") = false := ⟨Tryz.f196, by kernel_rfl, by kernel_rfl, by kernel_rfl⟩
end Go.Proofs
namespace Go.Proofs
open Go.AM
-- carousel/fix.Add
def f167_j1 (a : Int) (b : Int) : Option (Sum Unit Unit) :=
  bif (!((decide (a < (0 : Int))) == (decide (b < (0 : Int))))) then
    some (Sum.inr ())
  else
    bif ((decide ((IntKind.i64.wrap (a + b)) < (0 : Int))) == (decide (a < (0 : Int)))) then
      some (Sum.inr ())
    else
      some (Sum.inl ())
def f167 (a : Int) (b : Int) : Option Int :=
  bindF (f167_j1 a b) fun z1 =>
  sumF z1 (fun z1a =>
    bif (decide (a < (0 : Int))) then
      some (-9223372036854775808 : Int)
    else
      some (9223372036854775807 : Int)) (fun z1b =>
    some (IntKind.i64.wrap (a + b)))
def C167 : Con where
  X := Int × Int
  Y := Int
  e := 0
  args x := [.dat (.int .i64) x.1, .dat (.int .i64) x.2]
  hin x := []
  F x := f167 x.1 x.2
  ret y := [.dat (.int .i64) y]
  hout y := []
  nout := 0
theorem C167_vc (a : Int) (b : Int) (y : Int) (hF : f167 a b = some y) : vc Tryz.prog tab Tryz.f167.ntmps 0 (match Tryz.f167.body with | some c => c | none => .skip) (retK tab C167 Tryz.f167.results.toList y) (C167.shIn (a, b)).st := by
  unfold f167 at hF
  refine Or.inl ?_
  refine Or.inl ?_
  obtain ⟨z1, hz1, hF⟩ := bindE hF
  refine Or.inr ⟨Sum.elim (fun z1a => [(0, ⟨[(0, .dat (.int .i64) a)], [], 0⟩)]) (fun z1b => [(1, ⟨[(4, .dat (.int .i64) (IntKind.i64.wrap (a + b)))], [], 0⟩)]) z1, ?_, ?_⟩
  · have hF := hz1
    clear hz1
    unfold f167_j1 at hF
    refine Or.inl ?_
    refine condN hF (fun hF => ?_) (fun hF => ?_)
    · refine gdYF ?_
      refine gdYF ?_
      refine gdYF ?_
      refine gdYF ?_
      refine condF ?_
      refine condI hF (fun hF => ?_) (fun hF => ?_)
      · refine Or.inl ?_
        have hz := someE hF
        subst hz
        refine Exists.intro [] (Exists.intro [] (Exists.intro [] (Exists.intro [] (Exists.intro [] (And.intro rfl (And.intro rfl (And.intro trivial trivial)))))))
      · have hz := someE hF
        subst hz
        refine Exists.intro [] (Exists.intro [] (Exists.intro [] (Exists.intro [] (Exists.intro [] (And.intro rfl (And.intro rfl (And.intro trivial trivial)))))))
    · refine gdNF ?_
      refine gdNF ?_
      refine gdNF ?_
      refine gdNF ?_
      refine condT ?_
      refine condT ?_
      refine Or.inl ?_
      have hz := someE hF
      subst hz
      refine Exists.intro [] (Exists.intro [] (Exists.intro [] (Exists.intro [] (Exists.intro [] (And.intro rfl (And.intro rfl (And.intro trivial trivial)))))))
  · rcases z1 with z1a | z1b
    · dsimp only [sumF] at hF
      refine And.intro ?_ trivial
      refine Or.inl ?_
      refine Or.inl ?_
      refine condI hF (fun hF => ?_) (fun hF => ?_)
      · refine Or.inl ?_
        have hy := someE hF
        subst hy
        refine And.intro rfl (Exists.intro [] (Exists.intro [] (Exists.intro [] (Exists.intro [] (Exists.intro [] (And.intro rfl (And.intro rfl (And.intro trivial trivial))))))))
      · refine Or.inl ?_
        have hy := someE hF
        subst hy
        refine And.intro rfl (Exists.intro [] (Exists.intro [] (Exists.intro [] (Exists.intro [] (Exists.intro [] (And.intro rfl (And.intro rfl (And.intro trivial trivial))))))))
    · dsimp only [sumF] at hF
      refine And.intro ?_ trivial
      have hy := someE hF
      subst hy
      refine And.intro rfl (Exists.intro [] (Exists.intro [] (Exists.intro [] (Exists.intro [] (Exists.intro [] (And.intro rfl (And.intro rfl (And.intro trivial trivial))))))))
theorem C167_holds : C167.Holds Tryz.prog 167 := holds_of_vc tab_ok mixed (fn := Tryz.f167) (by kernel_rfl) rfl C167 (fun x y hF => C167_vc x.1 x.2 y hF)
theorem f167_in : ∃ fn, Tryz.prog.funcs[167]? = some fn ∧ fn.body.isSome = true ∧ (fn.name == "runtime.NumGoroutine") = false := ⟨Tryz.f167, by kernel_rfl, by kernel_rfl, by kernel_rfl⟩
end Go.Proofs
namespace Go.Proofs
open Go.AM
-- carousel/tens.both
def f166_167_j3 (a : (List Int) × (List Int)) (b : (List Int) × (List Int)) : Option Bool :=
  bindF (f91 (a.1, a.2)) fun r9 =>
  bif (!r9) then
    some true
  else
    bindF (f91 (b.1, b.2)) fun r10 =>
    some (!r10)
def f166_167_j2 (a : (List Int) × (List Int)) (b : (List Int) × (List Int)) : Option (Sum Unit Unit) :=
  bindF (f166_167_j3 a b) fun z8 =>
  bif z8 then
    some (Sum.inr ())
  else
    some (Sum.inl ())
def f166_167_l4 (a : (List Int) × (List Int)) (b : (List Int) × (List Int)) (r12 : Int × (List Int) × (List Int)) (q7_3 : List Int) (q7_7 : List Int) (go : (Int × (List Int)) → Option (List Int)) (v52 : Int) (l7 : List Int) : Option (List Int) :=
  bif (decide (v52 < (List.length r12.2.2 : Int))) then
    guardF (0 ≤ v52 ∧ v52 < (List.length q7_3 : Int)) <|
    guardF (0 ≤ (rd (0 : Int) q7_3 v52) ∧ (rd (0 : Int) q7_3 v52) < (List.length a.2 : Int)) <|
    guardF (0 ≤ v52 ∧ v52 < (List.length q7_7 : Int)) <|
    guardF (0 ≤ (rd (0 : Int) q7_7 v52) ∧ (rd (0 : Int) q7_7 v52) < (List.length b.2 : Int)) <|
    bindF (f167 (rd (0 : Int) a.2 (rd (0 : Int) q7_3 v52)) (rd (0 : Int) b.2 (rd (0 : Int) q7_7 v52))) fun q11_20 =>
    guardF (0 ≤ v52 ∧ v52 < (List.length l7 : Int)) <|
    go ((IntKind.i64.wrap (v52 + (1 : Int))), (List.set l7 (Int.toNat v52) q11_20))
  else
    some l7
def f166_167 (a : (List Int) × (List Int)) (b : (List Int) × (List Int)) : Option (Int × (List Int) × (List Int)) :=
  bindF (f166_167_j2 a b) fun z5 =>
  sumF z5 (fun z5a =>
    bindF (f195 a.1 b.1) fun r11 =>
    bif (r11.1 != (0 : Int)) then
      some (r11.1, [], [])
    else
      bindF (f171 r11.2 (0 : Int)) fun r12 =>
      bindF (f196 a.1 r11.2) fun q7_3 =>
      bindF (f196 b.1 r11.2) fun q7_7 =>
      bindF (loopF (fun go x => f166_167_l4 a b r12 q7_3 q7_7 go x.1 x.2) fuelN ((0 : Int), r12.2.2)) fun z13 =>
      some ((0 : Int), r12.2.1, z13)) (fun z5b =>
    some ((1 : Int), [], []))
def C166_167 : Con where
  X := ((List Int) × (List Int)) × ((List Int) × (List Int))
  Y := Int × (List Int) × (List Int)
  e := 0
  args x := [.dat (.p (.sl (.int .i64)) (.sl (.int .i64))) x.1, .dat (.p (.sl (.int .i64)) (.sl (.int .i64))) x.2, .raw false [(.c (.func (.func 167) #[] #[]))]]
  hin x := []
  F x := f166_167 x.1 x.2
  ret y := [.raw true [(.osl 0), (.osl 1)], .dat (.int .i64) y.1]
  hout y := [(0, .arr 3 (.int .i64) y.2.1), (1, .arr 57 (.int .i64) y.2.2)]
  nout := 2
theorem C166_167_vc (a : (List Int) × (List Int)) (b : (List Int) × (List Int)) (y : Int × (List Int) × (List Int)) (hF : f166_167 a b = some y) : vc Tryz.prog tab Tryz.f166.ntmps 0 (match Tryz.f166.body with | some c => c | none => .skip) (retK tab C166_167 Tryz.f166.results.toList y) (C166_167.shIn (a, b)).st := by
  unfold f166_167 at hF
  refine Or.inl ?_
  obtain ⟨z5, hz5, hF⟩ := bindE hF
  refine Or.inr ⟨Sum.elim (fun z5a => [(0, ⟨[(2, .raw false [(.c (.func (.func 167) #[] #[]))]), (3, .raw false [(.ptr 0 0)]), (4, .raw false [(.ptr 1 0)]), (6, .raw false [(.ptr 2 0)])], [(0, .cells [(.d (.sl (.int .i64)) a.1), (.d (.sl (.int .i64)) a.2)]), (1, .cells [(.d (.sl (.int .i64)) b.1), (.d (.sl (.int .i64)) b.2)]), (2, .cells [(.c (.slice none 0 0)), (.c (.slice none 0 0))])], 3⟩)]) (fun z5b => [(1, ⟨[(6, .raw false [(.ptr 0 0)]), (7, .dat (.int .i64) (1 : Int))], [(0, .cells [(.c (.slice none 0 0)), (.c (.slice none 0 0))])], 1⟩)]) z5, ?_, ?_⟩
  · have hF := hz5
    clear hz5
    unfold f166_167_j2 at hF
    obtain ⟨z8, hz8, hF⟩ := bindE hF
    refine Or.inr ⟨[(0, ⟨[(2, .raw false [(.c (.func (.func 167) #[] #[]))]), (3, .raw false [(.ptr 0 0)]), (4, .raw false [(.ptr 1 0)]), (6, .raw false [(.ptr 2 0)]), (22, .dat .bool z8)], [(0, .cells [(.d (.sl (.int .i64)) a.1), (.d (.sl (.int .i64)) a.2)]), (1, .cells [(.d (.sl (.int .i64)) b.1), (.d (.sl (.int .i64)) b.2)]), (2, .cells [(.c (.slice none 0 0)), (.c (.slice none 0 0))])], 3⟩)], ?_, ?_⟩
    · have hF := hz8
      clear hz8
      unfold f166_167_j3 at hF
      obtain ⟨r9, hr9, hF⟩ := bindE hF
      refine Or.inl (And.intro f91_in (callV0 (callI C91 (a.1, a.2) r9 [] false C91_holds hr9 rfl rfl ?_)))
      refine (And.intro rfl (And.intro rfl (And.intro (fun h => nomatch h) (And.intro rfl (And.intro rfl (And.intro trivial (And.intro trivial ?_)))))))
      refine condN hF (fun hF => ?_) (fun hF => ?_)
      · refine gdYF ?_
        obtain ⟨r10, hr10, hF⟩ := bindE hF
        refine Or.inl (And.intro f91_in (callV0 (callI C91 (b.1, b.2) r10 [] false C91_holds hr10 rfl rfl ?_)))
        refine (And.intro rfl (And.intro rfl (And.intro (fun h => nomatch h) (And.intro rfl (And.intro rfl (And.intro trivial (And.intro trivial ?_)))))))
        refine gdYF ?_
        refine condF ?_
        have hz := someE hF
        subst hz
        refine Exists.intro [] (Exists.intro [] (Exists.intro [] (Exists.intro [] (Exists.intro [(0, some 0), (1, some 1), (2, some 2)] (And.intro rfl (And.intro rfl (And.intro (And.intro rfl (And.intro rfl (And.intro rfl (And.intro rfl trivial)))) (And.intro rfl (And.intro rfl (And.intro rfl trivial))))))))))
      · refine gdNF ?_
        refine gdNF ?_
        refine condT ?_
        have hz := someE hF
        subst hz
        refine Exists.intro [] (Exists.intro [] (Exists.intro [] (Exists.intro [] (Exists.intro [(0, some 0), (1, some 1), (2, some 2)] (And.intro rfl (And.intro rfl (And.intro (And.intro rfl (And.intro rfl (And.intro rfl (And.intro rfl trivial)))) (And.intro rfl (And.intro rfl (And.intro rfl trivial))))))))))
    · refine And.intro ?_ trivial
      refine condI hF (fun hF => ?_) (fun hF => ?_)
      · refine Or.inl ?_
        refine Or.inl ?_
        have hz := someE hF
        subst hz
        refine Exists.intro [] (Exists.intro [] (Exists.intro [] (Exists.intro [] (Exists.intro [(0, some 2)] (And.intro rfl (And.intro rfl (And.intro (And.intro rfl trivial) (And.intro rfl trivial))))))))
      · have hz := someE hF
        subst hz
        refine Exists.intro [] (Exists.intro [] (Exists.intro [] (Exists.intro [] (Exists.intro [(0, some 0), (1, some 1), (2, some 2)] (And.intro rfl (And.intro (And.intro rfl (And.intro rfl (And.intro rfl (And.intro rfl trivial)))) (And.intro rfl (And.intro rfl (And.intro rfl trivial)))))))))
  · rcases z5 with z5a | z5b
    · dsimp only [sumF] at hF
      refine And.intro ?_ trivial
      refine Or.inl ?_
      obtain ⟨r11, hr11, hF⟩ := bindE hF
      refine Or.inl (And.intro f195_in (callV0 (callI C195 (a.1, b.1) r11 [] false C195_holds hr11 rfl rfl ?_)))
      refine (And.intro rfl (And.intro rfl (And.intro (fun h => nomatch h) (And.intro rfl (And.intro rfl (And.intro trivial (And.intro trivial ?_)))))))
      refine Or.inl ?_
      refine Or.inl ?_
      refine condI hF (fun hF => ?_) (fun hF => ?_)
      · refine Or.inl ?_
        refine Or.inl ?_
        have hy := someE hF
        subst hy
        refine And.intro rfl (Exists.intro [] (Exists.intro [] (Exists.intro [] (Exists.intro [] (Exists.intro [(0, none), (1, none)] (And.intro rfl (And.intro rfl (And.intro (And.intro rfl trivial) (And.intro rfl (And.intro rfl trivial))))))))))
      · refine Or.inl ?_
        obtain ⟨r12, hr12, hF⟩ := bindE hF
        refine Or.inl (And.intro f171_in (callV0 (callI C171 (r11.2, (0 : Int)) r12 [] true C171_holds hr12 rfl rfl ?_)))
        refine (And.intro rfl (And.intro rfl (And.intro (fun _ => rfl) (And.intro rfl (And.intro rfl (And.intro trivial (And.intro trivial ?_)))))))
        refine Or.inl ?_
        refine Or.inl ?_
        refine Exists.intro (.take 0 (.take 1 (.take 2 (.take 4 (.take 5 (.take 6 (.alt 3 (.alt 7 (.take 8 (.take 9 .done)) .done) .done))))))) (Exists.intro [] (Exists.intro [] (And.intro rfl ?_)))
        refine And.intro trivial ?_
        obtain ⟨q7_3, hq7_3, hF⟩ := bindE hF
        refine Or.inl (And.intro f196_in (callV0 (callI C196 (a.1, r11.2) q7_3 [] true C196_holds hq7_3 rfl rfl ?_)))
        refine (And.intro rfl (And.intro rfl (And.intro (fun _ => rfl) (And.intro rfl (And.intro rfl (And.intro trivial (And.intro trivial ?_)))))))
        refine And.intro trivial ?_
        obtain ⟨q7_7, hq7_7, hF⟩ := bindE hF
        refine Or.inl (And.intro f196_in (callV0 (callI C196 (b.1, r11.2) q7_7 [] true C196_holds hq7_7 rfl rfl ?_)))
        refine (And.intro rfl (And.intro rfl (And.intro (fun _ => rfl) (And.intro rfl (And.intro rfl (And.intro trivial (And.intro trivial ?_)))))))
        refine Or.inl ?_
        refine Or.inl ?_
        obtain ⟨z13, hz13, hF⟩ := bindE hF
        refine loopI (Int × (List Int)) (List Int) (fun x => ⟨[(2, .raw false [(.c (.func (.func 167) #[] #[]))]), (3, .raw false [(.ptr 0 0)]), (4, .raw false [(.ptr 1 0)]), (6, .raw false [(.ptr 2 0)]), (10, .raw false [(.ptr 3 0)]), (12, .raw false [(.osl 4)]), (13, .raw false [(.osl 5)]), (51, .dat (.int .i64) (List.length r12.2.2 : Int)), (52, .dat (.int .i64) x.1)], [(0, .cells [(.d (.sl (.int .i64)) a.1), (.d (.sl (.int .i64)) a.2)]), (1, .cells [(.d (.sl (.int .i64)) b.1), (.d (.sl (.int .i64)) b.2)]), (2, .cells [(.c (.slice none 0 0)), (.c (.slice none 0 0))]), (3, .cells [(.osl 6), (.osl 7)]), (4, .arr 3 (.int .i64) q7_3), (5, .arr 3 (.int .i64) q7_7), (6, .arr 3 (.int .i64) r12.2.1), (7, .arr 57 (.int .i64) x.2)], 8⟩) (fun z => [(2, ⟨[(6, .raw false [(.ptr 0 0)]), (10, .raw false [(.ptr 1 0)])], [(0, .cells [(.c (.slice none 0 0)), (.c (.slice none 0 0))]), (1, .cells [(.osl 2), (.osl 3)]), (2, .arr 3 (.int .i64) r12.2.1), (3, .arr 57 (.int .i64) z)], 4⟩)]) (loopF (fun go x => f166_167_l4 a b r12 q7_3 q7_7 go x.1 x.2)) fuelN ((0 : Int), r12.2.2) z13 (And.intro hz13 (And.intro (Exists.intro [] (Exists.intro [] (Exists.intro [] (Exists.intro [] (Exists.intro [(0, some 0), (1, some 1), (2, some 2), (3, some 6), (4, some 7), (5, some 8), (6, some 4), (7, some 5)] (And.intro rfl (And.intro rfl (And.intro rfl (And.intro (And.intro rfl (And.intro rfl (And.intro rfl (And.intro rfl (And.intro rfl (And.intro rfl (And.intro rfl trivial))))))) (And.intro rfl (And.intro rfl (And.intro rfl (And.intro rfl (And.intro rfl (And.intro rfl (And.intro rfl (And.intro rfl trivial))))))))))))))))) (And.intro (fun _ _ h => loopZ h) (And.intro (fun m => curI (fun v52 => fun l7 z hF => ?_)) ?_))))
        · have hF : f166_167_l4 a b r12 q7_3 q7_7 (loopF (fun go x => f166_167_l4 a b r12 q7_3 q7_7 go x.1 x.2) m) v52 l7 = some z := hF
          unfold f166_167_l4 at hF
          refine Or.inl ?_
          refine Or.inl ?_
          refine condI hF (fun hF => ?_) (fun hF => ?_)
          · refine Or.inl ?_
            refine Or.inl ?_
            refine Exists.intro (.take 0 (.take 1 (.take 2 (.take 3 (.take 4 (.take 5 (.take 6 (.take 7 (.take 8 (.take 9 (.take 10 (.take 11 (.take 12 (.take 13 (.take 14 (.take 15 (.take 16 (.take 17 (.take 18 (.take 19 (.alt 20 (.take 21 (.alt 22 .done .done)) .done))))))))))))))))))))) (Exists.intro [] (Exists.intro [] (And.intro rfl ?_)))
            refine guardI hF (fun hF => ?_)
            refine guardI hF (fun hF => ?_)
            refine guardI hF (fun hF => ?_)
            refine guardI hF (fun hF => ?_)
            refine And.intro trivial ?_
            obtain ⟨q11_20, hq11_20, hF⟩ := bindE hF
            refine Or.inl (And.intro f167_in (callV0 (callI C167 ((rd (0 : Int) a.2 (rd (0 : Int) q7_3 v52)), (rd (0 : Int) b.2 (rd (0 : Int) q7_7 v52))) q11_20 [] false C167_holds hq11_20 rfl rfl ?_)))
            refine (And.intro rfl (And.intro rfl (And.intro (fun h => nomatch h) (And.intro rfl (And.intro rfl (And.intro trivial (And.intro trivial ?_)))))))
            refine guardI hF (fun hF => ?_)
            refine And.intro trivial ?_
            refine Or.inl ?_
            refine Exists.intro ((IntKind.i64.wrap (v52 + (1 : Int))), (List.set l7 (Int.toNat v52) q11_20)) (And.intro hF (Exists.intro [] (Exists.intro [] (Exists.intro [] (Exists.intro [] (Exists.intro [(0, some 0), (1, some 1), (2, some 2), (3, some 3), (4, some 4), (5, some 5), (6, some 6), (7, some 7)] (And.intro rfl (And.intro rfl (And.intro rfl (And.intro (And.intro rfl (And.intro rfl (And.intro rfl (And.intro rfl (And.intro rfl (And.intro rfl (And.intro rfl trivial))))))) (And.intro rfl (And.intro rfl (And.intro rfl (And.intro rfl (And.intro rfl (And.intro rfl (And.intro rfl (And.intro rfl trivial))))))))))))))))))
          · have hz := someE hF
            subst hz
            refine Exists.intro [] (Exists.intro [] (Exists.intro [] (Exists.intro [] (Exists.intro [(0, some 2), (1, some 3), (2, some 6), (3, some 7)] (And.intro rfl (And.intro (And.intro rfl (And.intro rfl trivial)) (And.intro rfl (And.intro rfl (And.intro rfl (And.intro rfl trivial))))))))))
        · refine And.intro ?_ trivial
          refine Or.inl ?_
          refine Or.inl ?_
          have hy := someE hF
          subst hy
          refine And.intro rfl (Exists.intro [] (Exists.intro [] (Exists.intro [] (Exists.intro [] (Exists.intro [(0, some 2), (1, some 3)] (And.intro rfl (And.intro rfl (And.intro (And.intro rfl trivial) (And.intro rfl (And.intro rfl trivial))))))))))
    · dsimp only [sumF] at hF
      refine And.intro ?_ trivial
      have hy := someE hF
      subst hy
      refine And.intro rfl (Exists.intro [] (Exists.intro [] (Exists.intro [] (Exists.intro [] (Exists.intro [(0, none), (1, none)] (And.intro rfl (And.intro rfl (And.intro (And.intro rfl trivial) (And.intro rfl (And.intro rfl trivial))))))))))
theorem C166_167_holds : C166_167.Holds Tryz.prog 166 := holds_of_vc tab_ok mixed (fn := Tryz.f166) (by kernel_rfl) rfl C166_167 (fun x y hF => C166_167_vc x.1 x.2 y hF)
theorem f166_167_in : ∃ fn, Tryz.prog.funcs[166]? = some fn ∧ fn.body.isSome = true ∧ (fn.name == "runtime.NumGoroutine") = false := ⟨Tryz.f166, by kernel_rfl, by kernel_rfl, by kernel_rfl⟩
end Go.Proofs
namespace Go.Proofs
open Go.AM
-- carousel/tens.Add
def f138 (a : (List Int) × (List Int)) (b : (List Int) × (List Int)) : Option (Int × (List Int) × (List Int)) :=
  bindF (f166_167 (a.1, a.2) (b.1, b.2)) fun r1 =>
  some (r1.1, r1.2.1, r1.2.2)
def C138 : Con where
  X := ((List Int) × (List Int)) × ((List Int) × (List Int))
  Y := Int × (List Int) × (List Int)
  e := 0
  args x := [.dat (.p (.sl (.int .i64)) (.sl (.int .i64))) x.1, .dat (.p (.sl (.int .i64)) (.sl (.int .i64))) x.2]
  hin x := []
  F x := f138 x.1 x.2
  ret y := [.raw true [(.osl 0), (.osl 1)], .dat (.int .i64) y.1]
  hout y := [(0, .arr 3 (.int .i64) y.2.1), (1, .arr 57 (.int .i64) y.2.2)]
  nout := 2
theorem C138_vc (a : (List Int) × (List Int)) (b : (List Int) × (List Int)) (y : Int × (List Int) × (List Int)) (hF : f138 a b = some y) : vc Tryz.prog tab Tryz.f138.ntmps 0 (match Tryz.f138.body with | some c => c | none => .skip) (retK tab C138 Tryz.f138.results.toList y) (C138.shIn (a, b)).st := by
  unfold f138 at hF
  refine Or.inl ?_
  refine Or.inl ?_
  obtain ⟨r1, hr1, hF⟩ := bindE hF
  refine Or.inl (And.intro f166_167_in (callV0 (callI C166_167 ((a.1, a.2), (b.1, b.2)) r1 [] false C166_167_holds hr1 rfl rfl ?_)))
  refine (And.intro rfl (And.intro rfl (And.intro rfl (And.intro rfl (And.intro (fun h => nomatch h) (And.intro rfl (And.intro rfl (And.intro (And.intro rfl trivial) (And.intro trivial ?_)))))))))
  refine Or.inl ?_
  have hy := someE hF
  subst hy
  refine And.intro rfl (Exists.intro [] (Exists.intro [] (Exists.intro [] (Exists.intro [] (Exists.intro [(0, some 3), (1, some 4)] (And.intro rfl (And.intro rfl (And.intro (And.intro rfl trivial) (And.intro rfl (And.intro rfl trivial))))))))))
theorem C138_holds : C138.Holds Tryz.prog 138 := holds_of_vc tab_ok mixed (fn := Tryz.f138) (by kernel_rfl) rfl C138 (fun x y hF => C138_vc x.1 x.2 y hF)
theorem f138_in : ∃ fn, Tryz.prog.funcs[138]? = some fn ∧ fn.body.isSome = true ∧ (fn.name == "runtime.NumGoroutine") = false := ⟨Tryz.f138, by kernel_rfl, by kernel_rfl, by kernel_rfl⟩
end Go.Proofs
namespace Go.Proofs
open Go.AM
-- carousel/fix.Sub
def f168_j1 (a : Int) (b : Int) : Option (Sum Unit Unit) :=
  bif ((decide (a < (0 : Int))) == (decide (b < (0 : Int)))) then
    some (Sum.inr ())
  else
    bif ((decide ((IntKind.i64.wrap (a - b)) < (0 : Int))) == (decide (a < (0 : Int)))) then
      some (Sum.inr ())
    else
      some (Sum.inl ())
def f168 (a : Int) (b : Int) : Option Int :=
  bindF (f168_j1 a b) fun z1 =>
  sumF z1 (fun z1a =>
    bif (decide (a < (0 : Int))) then
      some (-9223372036854775808 : Int)
    else
      some (9223372036854775807 : Int)) (fun z1b =>
    some (IntKind.i64.wrap (a - b)))
def C168 : Con where
  X := Int × Int
  Y := Int
  e := 0
  args x := [.dat (.int .i64) x.1, .dat (.int .i64) x.2]
  hin x := []
  F x := f168 x.1 x.2
  ret y := [.dat (.int .i64) y]
  hout y := []
  nout := 0
theorem C168_vc (a : Int) (b : Int) (y : Int) (hF : f168 a b = some y) : vc Tryz.prog tab Tryz.f168.ntmps 0 (match Tryz.f168.body with | some c => c | none => .skip) (retK tab C168 Tryz.f168.results.toList y) (C168.shIn (a, b)).st := by
  unfold f168 at hF
  refine Or.inl ?_
  refine Or.inl ?_
  obtain ⟨z1, hz1, hF⟩ := bindE hF
  refine Or.inr ⟨Sum.elim (fun z1a => [(0, ⟨[(0, .dat (.int .i64) a)], [], 0⟩)]) (fun z1b => [(1, ⟨[(4, .dat (.int .i64) (IntKind.i64.wrap (a - b)))], [], 0⟩)]) z1, ?_, ?_⟩
  · have hF := hz1
    clear hz1
    unfold f168_j1 at hF
    refine Or.inl ?_
    refine condN hF (fun hF => ?_) (fun hF => ?_)
    · refine gdYF ?_
      refine gdYF ?_
      refine gdYF ?_
      refine gdYF ?_
      refine condF ?_
      refine condI hF (fun hF => ?_) (fun hF => ?_)
      · refine Or.inl ?_
        have hz := someE hF
        subst hz
        refine Exists.intro [] (Exists.intro [] (Exists.intro [] (Exists.intro [] (Exists.intro [] (And.intro rfl (And.intro rfl (And.intro trivial trivial)))))))
      · have hz := someE hF
        subst hz
        refine Exists.intro [] (Exists.intro [] (Exists.intro [] (Exists.intro [] (Exists.intro [] (And.intro rfl (And.intro rfl (And.intro trivial trivial)))))))
    · refine gdNF ?_
      refine gdNF ?_
      refine gdNF ?_
      refine gdNF ?_
      refine condT ?_
      refine condT ?_
      refine Or.inl ?_
      have hz := someE hF
      subst hz
      refine Exists.intro [] (Exists.intro [] (Exists.intro [] (Exists.intro [] (Exists.intro [] (And.intro rfl (And.intro rfl (And.intro trivial trivial)))))))
  · rcases z1 with z1a | z1b
    · dsimp only [sumF] at hF
      refine And.intro ?_ trivial
      refine Or.inl ?_
      refine Or.inl ?_
      refine condI hF (fun hF => ?_) (fun hF => ?_)
      · refine Or.inl ?_
        have hy := someE hF
        subst hy
        refine And.intro rfl (Exists.intro [] (Exists.intro [] (Exists.intro [] (Exists.intro [] (Exists.intro [] (And.intro rfl (And.intro rfl (And.intro trivial trivial))))))))
      · refine Or.inl ?_
        have hy := someE hF
        subst hy
        refine And.intro rfl (Exists.intro [] (Exists.intro [] (Exists.intro [] (Exists.intro [] (Exists.intro [] (And.intro rfl (And.intro rfl (And.intro trivial trivial))))))))
    · dsimp only [sumF] at hF
      refine And.intro ?_ trivial
      have hy := someE hF
      subst hy
      refine And.intro rfl (Exists.intro [] (Exists.intro [] (Exists.intro [] (Exists.intro [] (Exists.intro [] (And.intro rfl (And.intro rfl (And.intro trivial trivial))))))))
theorem C168_holds : C168.Holds Tryz.prog 168 := holds_of_vc tab_ok mixed (fn := Tryz.f168) (by kernel_rfl) rfl C168 (fun x y hF => C168_vc x.1 x.2 y hF)
theorem f168_in : ∃ fn, Tryz.prog.funcs[168]? = some fn ∧ fn.body.isSome = true ∧ (fn.name == "runtime.NumGoroutine") = false := ⟨Tryz.f168, by kernel_rfl, by kernel_rfl, by kernel_rfl⟩
end Go.Proofs
namespace Go.Proofs
open Go.AM
-- carousel/tens.both
def f166_168_j3 (a : (List Int) × (List Int)) (b : (List Int) × (List Int)) : Option Bool :=
  bindF (f91 (a.1, a.2)) fun r9 =>
  bif (!r9) then
    some true
  else
    bindF (f91 (b.1, b.2)) fun r10 =>
    some (!r10)
def f166_168_j2 (a : (List Int) × (List Int)) (b : (List Int) × (List Int)) : Option (Sum Unit Unit) :=
  bindF (f166_168_j3 a b) fun z8 =>
  bif z8 then
    some (Sum.inr ())
  else
    some (Sum.inl ())
def f166_168_l4 (a : (List Int) × (List Int)) (b : (List Int) × (List Int)) (r12 : Int × (List Int) × (List Int)) (q7_3 : List Int) (q7_7 : List Int) (go : (Int × (List Int)) → Option (List Int)) (v52 : Int) (l7 : List Int) : Option (List Int) :=
  bif (decide (v52 < (List.length r12.2.2 : Int))) then
    guardF (0 ≤ v52 ∧ v52 < (List.length q7_3 : Int)) <|
    guardF (0 ≤ (rd (0 : Int) q7_3 v52) ∧ (rd (0 : Int) q7_3 v52) < (List.length a.2 : Int)) <|
    guardF (0 ≤ v52 ∧ v52 < (List.length q7_7 : Int)) <|
    guardF (0 ≤ (rd (0 : Int) q7_7 v52) ∧ (rd (0 : Int) q7_7 v52) < (List.length b.2 : Int)) <|
    bindF (f168 (rd (0 : Int) a.2 (rd (0 : Int) q7_3 v52)) (rd (0 : Int) b.2 (rd (0 : Int) q7_7 v52))) fun q11_20 =>
    guardF (0 ≤ v52 ∧ v52 < (List.length l7 : Int)) <|
    go ((IntKind.i64.wrap (v52 + (1 : Int))), (List.set l7 (Int.toNat v52) q11_20))
  else
    some l7
def f166_168 (a : (List Int) × (List Int)) (b : (List Int) × (List Int)) : Option (Int × (List Int) × (List Int)) :=
  bindF (f166_168_j2 a b) fun z5 =>
  sumF z5 (fun z5a =>
    bindF (f195 a.1 b.1) fun r11 =>
    bif (r11.1 != (0 : Int)) then
      some (r11.1, [], [])
    else
      bindF (f171 r11.2 (0 : Int)) fun r12 =>
      bindF (f196 a.1 r11.2) fun q7_3 =>
      bindF (f196 b.1 r11.2) fun q7_7 =>
      bindF (loopF (fun go x => f166_168_l4 a b r12 q7_3 q7_7 go x.1 x.2) fuelN ((0 : Int), r12.2.2)) fun z13 =>
      some ((0 : Int), r12.2.1, z13)) (fun z5b =>
    some ((1 : Int), [], []))
def C166_168 : Con where
  X := ((List Int) × (List Int)) × ((List Int) × (List Int))
  Y := Int × (List Int) × (List Int)
  e := 0
  args x := [.dat (.p (.sl (.int .i64)) (.sl (.int .i64))) x.1, .dat (.p (.sl (.int .i64)) (.sl (.int .i64))) x.2, .raw false [(.c (.func (.func 168) #[] #[]))]]
  hin x := []
  F x := f166_168 x.1 x.2
  ret y := [.raw true [(.osl 0), (.osl 1)], .dat (.int .i64) y.1]
  hout y := [(0, .arr 3 (.int .i64) y.2.1), (1, .arr 57 (.int .i64) y.2.2)]
  nout := 2
theorem C166_168_vc (a : (List Int) × (List Int)) (b : (List Int) × (List Int)) (y : Int × (List Int) × (List Int)) (hF : f166_168 a b = some y) : vc Tryz.prog tab Tryz.f166.ntmps 0 (match Tryz.f166.body with | some c => c | none => .skip) (retK tab C166_168 Tryz.f166.results.toList y) (C166_168.shIn (a, b)).st := by
  unfold f166_168 at hF
  refine Or.inl ?_
  obtain ⟨z5, hz5, hF⟩ := bindE hF
  refine Or.inr ⟨Sum.elim (fun z5a => [(0, ⟨[(2, .raw false [(.c (.func (.func 168) #[] #[]))]), (3, .raw false [(.ptr 0 0)]), (4, .raw false [(.ptr 1 0)]), (6, .raw false [(.ptr 2 0)])], [(0, .cells [(.d (.sl (.int .i64)) a.1), (.d (.sl (.int .i64)) a.2)]), (1, .cells [(.d (.sl (.int .i64)) b.1), (.d (.sl (.int .i64)) b.2)]), (2, .cells [(.c (.slice none 0 0)), (.c (.slice none 0 0))])], 3⟩)]) (fun z5b => [(1, ⟨[(6, .raw false [(.ptr 0 0)]), (7, .dat (.int .i64) (1 : Int))], [(0, .cells [(.c (.slice none 0 0)), (.c (.slice none 0 0))])], 1⟩)]) z5, ?_, ?_⟩
  · have hF := hz5
    clear hz5
    unfold f166_168_j2 at hF
    obtain ⟨z8, hz8, hF⟩ := bindE hF
    refine Or.inr ⟨[(0, ⟨[(2, .raw false [(.c (.func (.func 168) #[] #[]))]), (3, .raw false [(.ptr 0 0)]), (4, .raw false [(.ptr 1 0)]), (6, .raw false [(.ptr 2 0)]), (22, .dat .bool z8)], [(0, .cells [(.d (.sl (.int .i64)) a.1), (.d (.sl (.int .i64)) a.2)]), (1, .cells [(.d (.sl (.int .i64)) b.1), (.d (.sl (.int .i64)) b.2)]), (2, .cells [(.c (.slice none 0 0)), (.c (.slice none 0 0))])], 3⟩)], ?_, ?_⟩
    · have hF := hz8
      clear hz8
      unfold f166_168_j3 at hF
      obtain ⟨r9, hr9, hF⟩ := bindE hF
      refine Or.inl (And.intro f91_in (callV0 (callI C91 (a.1, a.2) r9 [] false C91_holds hr9 rfl rfl ?_)))
      refine (And.intro rfl (And.intro rfl (And.intro (fun h => nomatch h) (And.intro rfl (And.intro rfl (And.intro trivial (And.intro trivial ?_)))))))
      refine condN hF (fun hF => ?_) (fun hF => ?_)
      · refine gdYF ?_
        obtain ⟨r10, hr10, hF⟩ := bindE hF
        refine Or.inl (And.intro f91_in (callV0 (callI C91 (b.1, b.2) r10 [] false C91_holds hr10 rfl rfl ?_)))
        refine (And.intro rfl (And.intro rfl (And.intro (fun h => nomatch h) (And.intro rfl (And.intro rfl (And.intro trivial (And.intro trivial ?_)))))))
        refine gdYF ?_
        refine condF ?_
        have hz := someE hF
        subst hz
        refine Exists.intro [] (Exists.intro [] (Exists.intro [] (Exists.intro [] (Exists.intro [(0, some 0), (1, some 1), (2, some 2)] (And.intro rfl (And.intro rfl (And.intro (And.intro rfl (And.intro rfl (And.intro rfl (And.intro rfl trivial)))) (And.intro rfl (And.intro rfl (And.intro rfl trivial))))))))))
      · refine gdNF ?_
        refine gdNF ?_
        refine condT ?_
        have hz := someE hF
        subst hz
        refine Exists.intro [] (Exists.intro [] (Exists.intro [] (Exists.intro [] (Exists.intro [(0, some 0), (1, some 1), (2, some 2)] (And.intro rfl (And.intro rfl (And.intro (And.intro rfl (And.intro rfl (And.intro rfl (And.intro rfl trivial)))) (And.intro rfl (And.intro rfl (And.intro rfl trivial))))))))))
    · refine And.intro ?_ trivial
      refine condI hF (fun hF => ?_) (fun hF => ?_)
      · refine Or.inl ?_
        refine Or.inl ?_
        have hz := someE hF
        subst hz
        refine Exists.intro [] (Exists.intro [] (Exists.intro [] (Exists.intro [] (Exists.intro [(0, some 2)] (And.intro rfl (And.intro rfl (And.intro (And.intro rfl trivial) (And.intro rfl trivial))))))))
      · have hz := someE hF
        subst hz
        refine Exists.intro [] (Exists.intro [] (Exists.intro [] (Exists.intro [] (Exists.intro [(0, some 0), (1, some 1), (2, some 2)] (And.intro rfl (And.intro (And.intro rfl (And.intro rfl (And.intro rfl (And.intro rfl trivial)))) (And.intro rfl (And.intro rfl (And.intro rfl trivial)))))))))
  · rcases z5 with z5a | z5b
    · dsimp only [sumF] at hF
      refine And.intro ?_ trivial
      refine Or.inl ?_
      obtain ⟨r11, hr11, hF⟩ := bindE hF
      refine Or.inl (And.intro f195_in (callV0 (callI C195 (a.1, b.1) r11 [] false C195_holds hr11 rfl rfl ?_)))
      refine (And.intro rfl (And.intro rfl (And.intro (fun h => nomatch h) (And.intro rfl (And.intro rfl (And.intro trivial (And.intro trivial ?_)))))))
      refine Or.inl ?_
      refine Or.inl ?_
      refine condI hF (fun hF => ?_) (fun hF => ?_)
      · refine Or.inl ?_
        refine Or.inl ?_
        have hy := someE hF
        subst hy
        refine And.intro rfl (Exists.intro [] (Exists.intro [] (Exists.intro [] (Exists.intro [] (Exists.intro [(0, none), (1, none)] (And.intro rfl (And.intro rfl (And.intro (And.intro rfl trivial) (And.intro rfl (And.intro rfl trivial))))))))))
      · refine Or.inl ?_
        obtain ⟨r12, hr12, hF⟩ := bindE hF
        refine Or.inl (And.intro f171_in (callV0 (callI C171 (r11.2, (0 : Int)) r12 [] true C171_holds hr12 rfl rfl ?_)))
        refine (And.intro rfl (And.intro rfl (And.intro (fun _ => rfl) (And.intro rfl (And.intro rfl (And.intro trivial (And.intro trivial ?_)))))))
        refine Or.inl ?_
        refine Or.inl ?_
        refine Exists.intro (.take 0 (.take 1 (.take 2 (.take 4 (.take 5 (.take 6 (.alt 3 (.alt 7 (.take 8 (.take 9 .done)) .done) .done))))))) (Exists.intro [] (Exists.intro [] (And.intro rfl ?_)))
        refine And.intro trivial ?_
        obtain ⟨q7_3, hq7_3, hF⟩ := bindE hF
        refine Or.inl (And.intro f196_in (callV0 (callI C196 (a.1, r11.2) q7_3 [] true C196_holds hq7_3 rfl rfl ?_)))
        refine (And.intro rfl (And.intro rfl (And.intro (fun _ => rfl) (And.intro rfl (And.intro rfl (And.intro trivial (And.intro trivial ?_)))))))
        refine And.intro trivial ?_
        obtain ⟨q7_7, hq7_7, hF⟩ := bindE hF
        refine Or.inl (And.intro f196_in (callV0 (callI C196 (b.1, r11.2) q7_7 [] true C196_holds hq7_7 rfl rfl ?_)))
        refine (And.intro rfl (And.intro rfl (And.intro (fun _ => rfl) (And.intro rfl (And.intro rfl (And.intro trivial (And.intro trivial ?_)))))))
        refine Or.inl ?_
        refine Or.inl ?_
        obtain ⟨z13, hz13, hF⟩ := bindE hF
        refine loopI (Int × (List Int)) (List Int) (fun x => ⟨[(2, .raw false [(.c (.func (.func 168) #[] #[]))]), (3, .raw false [(.ptr 0 0)]), (4, .raw false [(.ptr 1 0)]), (6, .raw false [(.ptr 2 0)]), (10, .raw false [(.ptr 3 0)]), (12, .raw false [(.osl 4)]), (13, .raw false [(.osl 5)]), (51, .dat (.int .i64) (List.length r12.2.2 : Int)), (52, .dat (.int .i64) x.1)], [(0, .cells [(.d (.sl (.int .i64)) a.1), (.d (.sl (.int .i64)) a.2)]), (1, .cells [(.d (.sl (.int .i64)) b.1), (.d (.sl (.int .i64)) b.2)]), (2, .cells [(.c (.slice none 0 0)), (.c (.slice none 0 0))]), (3, .cells [(.osl 6), (.osl 7)]), (4, .arr 3 (.int .i64) q7_3), (5, .arr 3 (.int .i64) q7_7), (6, .arr 3 (.int .i64) r12.2.1), (7, .arr 57 (.int .i64) x.2)], 8⟩) (fun z => [(2, ⟨[(6, .raw false [(.ptr 0 0)]), (10, .raw false [(.ptr 1 0)])], [(0, .cells [(.c (.slice none 0 0)), (.c (.slice none 0 0))]), (1, .cells [(.osl 2), (.osl 3)]), (2, .arr 3 (.int .i64) r12.2.1), (3, .arr 57 (.int .i64) z)], 4⟩)]) (loopF (fun go x => f166_168_l4 a b r12 q7_3 q7_7 go x.1 x.2)) fuelN ((0 : Int), r12.2.2) z13 (And.intro hz13 (And.intro (Exists.intro [] (Exists.intro [] (Exists.intro [] (Exists.intro [] (Exists.intro [(0, some 0), (1, some 1), (2, some 2), (3, some 6), (4, some 7), (5, some 8), (6, some 4), (7, some 5)] (And.intro rfl (And.intro rfl (And.intro rfl (And.intro (And.intro rfl (And.intro rfl (And.intro rfl (And.intro rfl (And.intro rfl (And.intro rfl (And.intro rfl trivial))))))) (And.intro rfl (And.intro rfl (And.intro rfl (And.intro rfl (And.intro rfl (And.intro rfl (And.intro rfl (And.intro rfl trivial))))))))))))))))) (And.intro (fun _ _ h => loopZ h) (And.intro (fun m => curI (fun v52 => fun l7 z hF => ?_)) ?_))))
        · have hF : f166_168_l4 a b r12 q7_3 q7_7 (loopF (fun go x => f166_168_l4 a b r12 q7_3 q7_7 go x.1 x.2) m) v52 l7 = some z := hF
          unfold f166_168_l4 at hF
          refine Or.inl ?_
          refine Or.inl ?_
          refine condI hF (fun hF => ?_) (fun hF => ?_)
          · refine Or.inl ?_
            refine Or.inl ?_
            refine Exists.intro (.take 0 (.take 1 (.take 2 (.take 3 (.take 4 (.take 5 (.take 6 (.take 7 (.take 8 (.take 9 (.take 10 (.take 11 (.take 12 (.take 13 (.take 14 (.take 15 (.take 16 (.take 17 (.take 18 (.take 19 (.alt 20 (.take 21 (.alt 22 .done .done)) .done))))))))))))))))))))) (Exists.intro [] (Exists.intro [] (And.intro rfl ?_)))
            refine guardI hF (fun hF => ?_)
            refine guardI hF (fun hF => ?_)
            refine guardI hF (fun hF => ?_)
            refine guardI hF (fun hF => ?_)
            refine And.intro trivial ?_
            obtain ⟨q11_20, hq11_20, hF⟩ := bindE hF
            refine Or.inl (And.intro f168_in (callV0 (callI C168 ((rd (0 : Int) a.2 (rd (0 : Int) q7_3 v52)), (rd (0 : Int) b.2 (rd (0 : Int) q7_7 v52))) q11_20 [] false C168_holds hq11_20 rfl rfl ?_)))
            refine (And.intro rfl (And.intro rfl (And.intro (fun h => nomatch h) (And.intro rfl (And.intro rfl (And.intro trivial (And.intro trivial ?_)))))))
            refine guardI hF (fun hF => ?_)
            refine And.intro trivial ?_
            refine Or.inl ?_
            refine Exists.intro ((IntKind.i64.wrap (v52 + (1 : Int))), (List.set l7 (Int.toNat v52) q11_20)) (And.intro hF (Exists.intro [] (Exists.intro [] (Exists.intro [] (Exists.intro [] (Exists.intro [(0, some 0), (1, some 1), (2, some 2), (3, some 3), (4, some 4), (5, some 5), (6, some 6), (7, some 7)] (And.intro rfl (And.intro rfl (And.intro rfl (And.intro (And.intro rfl (And.intro rfl (And.intro rfl (And.intro rfl (And.intro rfl (And.intro rfl (And.intro rfl trivial))))))) (And.intro rfl (And.intro rfl (And.intro rfl (And.intro rfl (And.intro rfl (And.intro rfl (And.intro rfl (And.intro rfl trivial))))))))))))))))))
          · have hz := someE hF
            subst hz
            refine Exists.intro [] (Exists.intro [] (Exists.intro [] (Exists.intro [] (Exists.intro [(0, some 2), (1, some 3), (2, some 6), (3, some 7)] (And.intro rfl (And.intro (And.intro rfl (And.intro rfl trivial)) (And.intro rfl (And.intro rfl (And.intro rfl (And.intro rfl trivial))))))))))
        · refine And.intro ?_ trivial
          refine Or.inl ?_
          refine Or.inl ?_
          have hy := someE hF
          subst hy
          refine And.intro rfl (Exists.intro [] (Exists.intro [] (Exists.intro [] (Exists.intro [] (Exists.intro [(0, some 2), (1, some 3)] (And.intro rfl (And.intro rfl (And.intro (And.intro rfl trivial) (And.intro rfl (And.intro rfl trivial))))))))))
    · dsimp only [sumF] at hF
      refine And.intro ?_ trivial
      have hy := someE hF
      subst hy
      refine And.intro rfl (Exists.intro [] (Exists.intro [] (Exists.intro [] (Exists.intro [] (Exists.intro [(0, none), (1, none)] (And.intro rfl (And.intro rfl (And.intro (And.intro rfl trivial) (And.intro rfl (And.intro rfl trivial))))))))))
theorem C166_168_holds : C166_168.Holds Tryz.prog 166 := holds_of_vc tab_ok mixed (fn := Tryz.f166) (by kernel_rfl) rfl C166_168 (fun x y hF => C166_168_vc x.1 x.2 y hF)
theorem f166_168_in : ∃ fn, Tryz.prog.funcs[166]? = some fn ∧ fn.body.isSome = true ∧ (fn.name == "runtime.NumGoroutine") = false := ⟨Tryz.f166, by kernel_rfl, by kernel_rfl, by kernel_rfl⟩
end Go.Proofs
namespace Go.Proofs
open Go.AM
-- carousel/tens.Sub
def f139 (a : (List Int) × (List Int)) (b : (List Int) × (List Int)) : Option (Int × (List Int) × (List Int)) :=
  bindF (f166_168 (a.1, a.2) (b.1, b.2)) fun r1 =>
  some (r1.1, r1.2.1, r1.2.2)
def C139 : Con where
  X := ((List Int) × (List Int)) × ((List Int) × (List Int))
  Y := Int × (List Int) × (List Int)
  e := 0
  args x := [.dat (.p (.sl (.int .i64)) (.sl (.int .i64))) x.1, .dat (.p (.sl (.int .i64)) (.sl (.int .i64))) x.2]
  hin x := []
  F x := f139 x.1 x.2
  ret y := [.raw true [(.osl 0), (.osl 1)], .dat (.int .i64) y.1]
  hout y := [(0, .arr 3 (.int .i64) y.2.1), (1, .arr 57 (.int .i64) y.2.2)]
  nout := 2
theorem C139_vc (a : (List Int) × (List Int)) (b : (List Int) × (List Int)) (y : Int × (List Int) × (List Int)) (hF : f139 a b = some y) : vc Tryz.prog tab Tryz.f139.ntmps 0 (match Tryz.f139.body with | some c => c | none => .skip) (retK tab C139 Tryz.f139.results.toList y) (C139.shIn (a, b)).st := by
  unfold f139 at hF
  refine Or.inl ?_
  refine Or.inl ?_
  obtain ⟨r1, hr1, hF⟩ := bindE hF
  refine Or.inl (And.intro f166_168_in (callV0 (callI C166_168 ((a.1, a.2), (b.1, b.2)) r1 [] false C166_168_holds hr1 rfl rfl ?_)))
  refine (And.intro rfl (And.intro rfl (And.intro rfl (And.intro rfl (And.intro (fun h => nomatch h) (And.intro rfl (And.intro rfl (And.intro (And.intro rfl trivial) (And.intro trivial ?_)))))))))
  refine Or.inl ?_
  have hy := someE hF
  subst hy
  refine And.intro rfl (Exists.intro [] (Exists.intro [] (Exists.intro [] (Exists.intro [] (Exists.intro [(0, some 3), (1, some 4)] (And.intro rfl (And.intro rfl (And.intro (And.intro rfl trivial) (And.intro rfl (And.intro rfl trivial))))))))))
theorem C139_holds : C139.Holds Tryz.prog 139 := holds_of_vc tab_ok mixed (fn := Tryz.f139) (by kernel_rfl) rfl C139 (fun x y hF => C139_vc x.1 x.2 y hF)
theorem f139_in : ∃ fn, Tryz.prog.funcs[139]? = some fn ∧ fn.body.isSome = true ∧ (fn.name == "runtime.NumGoroutine") = false := ⟨Tryz.f139, by kernel_rfl, by kernel_rfl, by kernel_rfl⟩
end Go.Proofs
namespace Go.Proofs
open Go.AM
-- carousel/fix.size
def f198 (v : Int) : Option Int :=
  bif (decide (v < (0 : Int))) then
    some (IntKind.u64.wrap (0 - (IntKind.u64.wrap v)))
  else
    some (IntKind.u64.wrap v)
def C198 : Con where
  X := Int
  Y := Int
  e := 0
  args x := [.dat (.int .i64) x]
  hin x := []
  F x := f198 x
  ret y := [.dat (.int .u64) y]
  hout y := []
  nout := 0
theorem C198_vc (v : Int) (y : Int) (hF : f198 v = some y) : vc Tryz.prog tab Tryz.f198.ntmps 0 (match Tryz.f198.body with | some c => c | none => .skip) (retK tab C198 Tryz.f198.results.toList y) (C198.shIn v).st := by
  unfold f198 at hF
  refine Or.inl ?_
  refine Or.inl ?_
  refine Or.inl ?_
  refine condI hF (fun hF => ?_) (fun hF => ?_)
  · refine Or.inl ?_
    have hy := someE hF
    subst hy
    refine And.intro rfl (Exists.intro [] (Exists.intro [] (Exists.intro [] (Exists.intro [] (Exists.intro [] (And.intro rfl (And.intro rfl (And.intro trivial trivial))))))))
  · refine Or.inl ?_
    have hy := someE hF
    subst hy
    refine And.intro rfl (Exists.intro [] (Exists.intro [] (Exists.intro [] (Exists.intro [] (Exists.intro [] (And.intro rfl (And.intro rfl (And.intro trivial trivial))))))))
theorem C198_holds : C198.Holds Tryz.prog 198 := holds_of_vc tab_ok mixed (fn := Tryz.f198) (by kernel_rfl) rfl C198 (fun x y hF => C198_vc x y hF)
theorem f198_in : ∃ fn, Tryz.prog.funcs[198]? = some fn ∧ fn.body.isSome = true ∧ (fn.name == "runtime.NumGoroutine") = false := ⟨Tryz.f198, by kernel_rfl, by kernel_rfl, by kernel_rfl⟩
end Go.Proofs
namespace Go.Proofs
open Go.AM
-- carousel/fix.held
def f200_j1 (hi : Int) (lo : Int) (below : Bool) : Option Bool :=
  bif below then
    bif (decide (hi > (0 : Int))) then
      some true
    else
      some (decide (lo ≥ (9223372036854775808 : Int)))
  else
    some false
def f200 (hi : Int) (lo : Int) (below : Bool) : Option Int :=
  bindF (f200_j1 hi lo below) fun z1 =>
  bif z1 then
    some (-9223372036854775808 : Int)
  else
    bif below then
      some (IntKind.i64.wrap (0 - (IntKind.i64.wrap lo)))
    else
      bif (decide (hi > (0 : Int))) then
        some (9223372036854775807 : Int)
      else
        bif (decide (lo ≥ (9223372036854775808 : Int))) then
          some (9223372036854775807 : Int)
        else
          some (IntKind.i64.wrap lo)
def C200 : Con where
  X := Int × Int × Bool
  Y := Int
  e := 0
  args x := [.dat (.int .u64) x.1, .dat (.int .u64) x.2.1, .dat .bool x.2.2]
  hin x := []
  F x := f200 x.1 x.2.1 x.2.2
  ret y := [.dat (.int .i64) y]
  hout y := []
  nout := 0
theorem C200_vc (hi : Int) (lo : Int) (below : Bool) (y : Int) (hF : f200 hi lo below = some y) : vc Tryz.prog tab Tryz.f200.ntmps 0 (match Tryz.f200.body with | some c => c | none => .skip) (retK tab C200 Tryz.f200.results.toList y) (C200.shIn (hi, lo, below)).st := by
  unfold f200 at hF
  refine Or.inl ?_
  refine Or.inl ?_
  obtain ⟨z1, hz1, hF⟩ := bindE hF
  refine Or.inr ⟨[(0, ⟨[(0, .dat (.int .u64) hi), (1, .dat (.int .u64) lo), (2, .dat .bool below), (7, .dat .bool z1)], [], 0⟩)], ?_, ?_⟩
  · have hF := hz1
    clear hz1
    unfold f200_j1 at hF
    refine condI hF (fun hF => ?_) (fun hF => ?_)
    · refine gdYT ?_
      refine gdYT ?_
      refine condN hF (fun hF => ?_) (fun hF => ?_)
      · refine gdYF ?_
        refine gdYT ?_
        refine condF ?_
        refine condT ?_
        have hz := someE hF
        subst hz
        refine Exists.intro [] (Exists.intro [] (Exists.intro [] (Exists.intro [] (Exists.intro [] (And.intro rfl (And.intro rfl (And.intro rfl (And.intro rfl (And.intro rfl (And.intro trivial trivial))))))))))
      · refine gdNF ?_
        refine gdYT ?_
        refine condT ?_
        refine condT ?_
        have hz := someE hF
        subst hz
        refine Exists.intro [] (Exists.intro [] (Exists.intro [] (Exists.intro [] (Exists.intro [] (And.intro rfl (And.intro rfl (And.intro rfl (And.intro rfl (And.intro rfl (And.intro trivial trivial))))))))))
    · refine gdNT ?_
      refine gdNT ?_
      refine gdNT ?_
      refine condF ?_
      have hz := someE hF
      subst hz
      refine Exists.intro [] (Exists.intro [] (Exists.intro [] (Exists.intro [] (Exists.intro [] (And.intro rfl (And.intro rfl (And.intro rfl (And.intro rfl (And.intro rfl (And.intro trivial trivial))))))))))
  · refine And.intro ?_ trivial
    refine condI hF (fun hF => ?_) (fun hF => ?_)
    · refine Or.inl ?_
      have hy := someE hF
      subst hy
      refine And.intro rfl (Exists.intro [] (Exists.intro [] (Exists.intro [] (Exists.intro [] (Exists.intro [] (And.intro rfl (And.intro rfl (And.intro trivial trivial))))))))
    · refine Or.inl ?_
      refine condI hF (fun hF => ?_) (fun hF => ?_)
      · refine Or.inl ?_
        have hy := someE hF
        subst hy
        refine And.intro rfl (Exists.intro [] (Exists.intro [] (Exists.intro [] (Exists.intro [] (Exists.intro [] (And.intro rfl (And.intro rfl (And.intro trivial trivial))))))))
      · refine Or.inl ?_
        refine condN hF (fun hF => ?_) (fun hF => ?_)
        · refine gdYF ?_
          refine condF ?_
          refine condI hF (fun hF => ?_) (fun hF => ?_)
          · refine Or.inl ?_
            have hy := someE hF
            subst hy
            refine And.intro rfl (Exists.intro [] (Exists.intro [] (Exists.intro [] (Exists.intro [] (Exists.intro [] (And.intro rfl (And.intro rfl (And.intro trivial trivial))))))))
          · refine Or.inl ?_
            have hy := someE hF
            subst hy
            refine And.intro rfl (Exists.intro [] (Exists.intro [] (Exists.intro [] (Exists.intro [] (Exists.intro [] (And.intro rfl (And.intro rfl (And.intro trivial trivial))))))))
        · refine gdNF ?_
          refine condT ?_
          refine condT ?_
          refine Or.inl ?_
          have hy := someE hF
          subst hy
          refine And.intro rfl (Exists.intro [] (Exists.intro [] (Exists.intro [] (Exists.intro [] (Exists.intro [] (And.intro rfl (And.intro rfl (And.intro trivial trivial))))))))
theorem C200_holds : C200.Holds Tryz.prog 200 := holds_of_vc tab_ok mixed (fn := Tryz.f200) (by kernel_rfl) rfl C200 (fun x y hF => C200_vc x.1 x.2.1 x.2.2 y hF)
theorem f200_in : ∃ fn, Tryz.prog.funcs[200]? = some fn ∧ fn.body.isSome = true ∧ (fn.name == "runtime.NumGoroutine") = false := ⟨Tryz.f200, by kernel_rfl, by kernel_rfl, by kernel_rfl⟩
end Go.Proofs
namespace Go.Proofs
open Go.AM
-- carousel/fix.Mul
def f169_j3 (r3 : Int × Int) : Option Bool :=
  bif (decide ((bitsOf IntKind.u64 (fun p q => p &&& q) r3.2 (4294967295 : Int)) > (2147483648 : Int))) then
    some true
  else
    bif ((bitsOf IntKind.u64 (fun p q => p &&& q) r3.2 (4294967295 : Int)) == (2147483648 : Int)) then
      some ((bitsOf IntKind.u64 (fun p q => p &&& q) (bitsOf IntKind.u64 (fun p q => p ||| q) (IntKind.u64.wrap (r3.1 * 2 ^ min (Int.toNat (32 : Int)) (IntKind.bits IntKind.u64))) (Int.fdiv r3.2 (2 ^ min (Int.toNat (32 : Int)) (IntKind.bits IntKind.u64)))) (1 : Int)) == (1 : Int))
    else
      some false
def f169_j2 (r3 : Int × Int) : Option (Int × Int) :=
  bindF (f169_j3 r3) fun z7 =>
  bif z7 then
    bindF (add64 (bitsOf IntKind.u64 (fun p q => p ||| q) (IntKind.u64.wrap (r3.1 * 2 ^ min (Int.toNat (32 : Int)) (IntKind.bits IntKind.u64))) (Int.fdiv r3.2 (2 ^ min (Int.toNat (32 : Int)) (IntKind.bits IntKind.u64)))) (1 : Int) (0 : Int)) fun r8 =>
    some (r8.1, (IntKind.u64.wrap ((Int.fdiv r3.1 (2 ^ min (Int.toNat (32 : Int)) (IntKind.bits IntKind.u64))) + r8.2)))
  else
    some ((bitsOf IntKind.u64 (fun p q => p ||| q) (IntKind.u64.wrap (r3.1 * 2 ^ min (Int.toNat (32 : Int)) (IntKind.bits IntKind.u64))) (Int.fdiv r3.2 (2 ^ min (Int.toNat (32 : Int)) (IntKind.bits IntKind.u64)))), (Int.fdiv r3.1 (2 ^ min (Int.toNat (32 : Int)) (IntKind.bits IntKind.u64))))
def f169 (a : Int) (b : Int) : Option Int :=
  bindF (f198 a) fun r1 =>
  bindF (f198 b) fun r2 =>
  bindF (f197 r1 r2) fun r3 =>
  bindF (f169_j2 r3) fun z6 =>
  bindF (f200 z6.2 z6.1 (!((decide (a < (0 : Int))) == (decide (b < (0 : Int)))))) fun r9 =>
  some r9
def C169 : Con where
  X := Int × Int
  Y := Int
  e := 0
  args x := [.dat (.int .i64) x.1, .dat (.int .i64) x.2]
  hin x := []
  F x := f169 x.1 x.2
  ret y := [.dat (.int .i64) y]
  hout y := []
  nout := 0
theorem C169_vc (a : Int) (b : Int) (y : Int) (hF : f169 a b = some y) : vc Tryz.prog tab Tryz.f169.ntmps 0 (match Tryz.f169.body with | some c => c | none => .skip) (retK tab C169 Tryz.f169.results.toList y) (C169.shIn (a, b)).st := by
  unfold f169 at hF
  refine Or.inl ?_
  refine Or.inl ?_
  obtain ⟨r1, hr1, hF⟩ := bindE hF
  refine Or.inl (And.intro f198_in (callV0 (callI C198 a r1 [] false C198_holds hr1 rfl rfl ?_)))
  refine (And.intro rfl (And.intro (fun h => nomatch h) (And.intro rfl (And.intro rfl (And.intro trivial (And.intro trivial ?_))))))
  obtain ⟨r2, hr2, hF⟩ := bindE hF
  refine Or.inl (And.intro f198_in (callV0 (callI C198 b r2 [] false C198_holds hr2 rfl rfl ?_)))
  refine (And.intro rfl (And.intro (fun h => nomatch h) (And.intro rfl (And.intro rfl (And.intro trivial (And.intro trivial ?_))))))
  obtain ⟨r3, hr3, hF⟩ := bindE hF
  refine Or.inl (And.intro f197_in (callV0 (callI C197 (r1, r2) r3 [] false C197_holds hr3 rfl rfl ?_)))
  refine (And.intro rfl (And.intro rfl (And.intro (fun h => nomatch h) (And.intro rfl (And.intro rfl (And.intro trivial (And.intro trivial ?_)))))))
  refine Or.inl ?_
  refine Or.inl ?_
  refine And.intro (by decide) ?_
  refine And.intro (by decide) ?_
  refine Or.inl ?_
  refine And.intro (by decide) ?_
  obtain ⟨z6, hz6, hF⟩ := bindE hF
  refine Or.inr ⟨[(0, ⟨[(0, .dat (.int .i64) a), (1, .dat (.int .i64) b), (8, .dat (.int .u64) z6.1), (9, .dat (.int .u64) z6.2)], [], 0⟩)], ?_, ?_⟩
  · have hF := hz6
    clear hz6
    unfold f169_j2 at hF
    obtain ⟨z7, hz7, hF⟩ := bindE hF
    refine Or.inr ⟨[(0, ⟨[(0, .dat (.int .i64) a), (1, .dat (.int .i64) b), (8, .dat (.int .u64) (bitsOf IntKind.u64 (fun p q => p ||| q) (IntKind.u64.wrap (r3.1 * 2 ^ min (Int.toNat (32 : Int)) (IntKind.bits IntKind.u64))) (Int.fdiv r3.2 (2 ^ min (Int.toNat (32 : Int)) (IntKind.bits IntKind.u64))))), (9, .dat (.int .u64) (Int.fdiv r3.1 (2 ^ min (Int.toNat (32 : Int)) (IntKind.bits IntKind.u64)))), (38, .dat .bool z7)], [], 0⟩)], ?_, ?_⟩
    · have hF := hz7
      clear hz7
      unfold f169_j3 at hF
      refine condN hF (fun hF => ?_) (fun hF => ?_)
      · refine gdYF ?_
        refine gdYF ?_
        refine condI hF (fun hF => ?_) (fun hF => ?_)
        · refine gdYT ?_
          refine gdYT ?_
          refine gdYF ?_
          refine condT ?_
          refine condF ?_
          have hz := someE hF
          subst hz
          refine Exists.intro [] (Exists.intro [] (Exists.intro [] (Exists.intro [] (Exists.intro [] (And.intro rfl (And.intro rfl (And.intro rfl (And.intro rfl (And.intro rfl (And.intro rfl (And.intro trivial trivial)))))))))))
        · refine gdNT ?_
          refine gdNT ?_
          refine gdYF ?_
          refine condF ?_
          refine condF ?_
          have hz := someE hF
          subst hz
          refine Exists.intro [] (Exists.intro [] (Exists.intro [] (Exists.intro [] (Exists.intro [] (And.intro rfl (And.intro rfl (And.intro rfl (And.intro rfl (And.intro rfl (And.intro rfl (And.intro trivial trivial)))))))))))
      · refine gdNF ?_
        refine gdNF ?_
        refine gdNF ?_
        refine condT ?_
        have hz := someE hF
        subst hz
        refine Exists.intro [] (Exists.intro [] (Exists.intro [] (Exists.intro [] (Exists.intro [] (And.intro rfl (And.intro rfl (And.intro rfl (And.intro rfl (And.intro rfl (And.intro rfl (And.intro trivial trivial)))))))))))
    · refine And.intro ?_ trivial
      refine condI hF (fun hF => ?_) (fun hF => ?_)
      · refine Or.inl ?_
        refine Or.inl ?_
        obtain ⟨r8, hr8, hF⟩ := bindE hF
        refine Or.inr ⟨ext3 add64, [r8.1, r8.2], add64_ok, And.intro (ext3I hr8) ?_⟩
        have hz := someE hF
        subst hz
        refine Exists.intro [] (Exists.intro [] (Exists.intro [] (Exists.intro [] (Exists.intro [] (And.intro rfl (And.intro rfl (And.intro rfl (And.intro rfl (And.intro rfl (And.intro trivial trivial))))))))))
      · have hz := someE hF
        subst hz
        refine Exists.intro [] (Exists.intro [] (Exists.intro [] (Exists.intro [] (Exists.intro [] (And.intro rfl (And.intro rfl (And.intro rfl (And.intro rfl (And.intro rfl (And.intro trivial trivial))))))))))
  · refine And.intro ?_ trivial
    refine Or.inl ?_
    obtain ⟨r9, hr9, hF⟩ := bindE hF
    refine Or.inl (And.intro f200_in (callV0 (callI C200 (z6.2, z6.1, (!((decide (a < (0 : Int))) == (decide (b < (0 : Int)))))) r9 [] false C200_holds hr9 rfl rfl ?_)))
    refine (And.intro rfl (And.intro rfl (And.intro rfl (And.intro (fun h => nomatch h) (And.intro rfl (And.intro rfl (And.intro trivial (And.intro trivial ?_))))))))
    have hy := someE hF
    subst hy
    refine And.intro rfl (Exists.intro [] (Exists.intro [] (Exists.intro [] (Exists.intro [] (Exists.intro [] (And.intro rfl (And.intro rfl (And.intro trivial trivial))))))))
theorem C169_holds : C169.Holds Tryz.prog 169 := holds_of_vc tab_ok mixed (fn := Tryz.f169) (by kernel_rfl) rfl C169 (fun x y hF => C169_vc x.1 x.2 y hF)
theorem f169_in : ∃ fn, Tryz.prog.funcs[169]? = some fn ∧ fn.body.isSome = true ∧ (fn.name == "runtime.NumGoroutine") = false := ⟨Tryz.f169, by kernel_rfl, by kernel_rfl, by kernel_rfl⟩
end Go.Proofs
namespace Go.Proofs
open Go.AM
-- carousel/tens.both
def f166_169_j3 (a : (List Int) × (List Int)) (b : (List Int) × (List Int)) : Option Bool :=
  bindF (f91 (a.1, a.2)) fun r9 =>
  bif (!r9) then
    some true
  else
    bindF (f91 (b.1, b.2)) fun r10 =>
    some (!r10)
def f166_169_j2 (a : (List Int) × (List Int)) (b : (List Int) × (List Int)) : Option (Sum Unit Unit) :=
  bindF (f166_169_j3 a b) fun z8 =>
  bif z8 then
    some (Sum.inr ())
  else
    some (Sum.inl ())
def f166_169_l4 (a : (List Int) × (List Int)) (b : (List Int) × (List Int)) (r12 : Int × (List Int) × (List Int)) (q7_3 : List Int) (q7_7 : List Int) (go : (Int × (List Int)) → Option (List Int)) (v52 : Int) (l7 : List Int) : Option (List Int) :=
  bif (decide (v52 < (List.length r12.2.2 : Int))) then
    guardF (0 ≤ v52 ∧ v52 < (List.length q7_3 : Int)) <|
    guardF (0 ≤ (rd (0 : Int) q7_3 v52) ∧ (rd (0 : Int) q7_3 v52) < (List.length a.2 : Int)) <|
    guardF (0 ≤ v52 ∧ v52 < (List.length q7_7 : Int)) <|
    guardF (0 ≤ (rd (0 : Int) q7_7 v52) ∧ (rd (0 : Int) q7_7 v52) < (List.length b.2 : Int)) <|
    bindF (f169 (rd (0 : Int) a.2 (rd (0 : Int) q7_3 v52)) (rd (0 : Int) b.2 (rd (0 : Int) q7_7 v52))) fun q11_20 =>
    guardF (0 ≤ v52 ∧ v52 < (List.length l7 : Int)) <|
    go ((IntKind.i64.wrap (v52 + (1 : Int))), (List.set l7 (Int.toNat v52) q11_20))
  else
    some l7
def f166_169 (a : (List Int) × (List Int)) (b : (List Int) × (List Int)) : Option (Int × (List Int) × (List Int)) :=
  bindF (f166_169_j2 a b) fun z5 =>
  sumF z5 (fun z5a =>
    bindF (f195 a.1 b.1) fun r11 =>
    bif (r11.1 != (0 : Int)) then
      some (r11.1, [], [])
    else
      bindF (f171 r11.2 (0 : Int)) fun r12 =>
      bindF (f196 a.1 r11.2) fun q7_3 =>
      bindF (f196 b.1 r11.2) fun q7_7 =>
      bindF (loopF (fun go x => f166_169_l4 a b r12 q7_3 q7_7 go x.1 x.2) fuelN ((0 : Int), r12.2.2)) fun z13 =>
      some ((0 : Int), r12.2.1, z13)) (fun z5b =>
    some ((1 : Int), [], []))
def C166_169 : Con where
  X := ((List Int) × (List Int)) × ((List Int) × (List Int))
  Y := Int × (List Int) × (List Int)
  e := 0
  args x := [.dat (.p (.sl (.int .i64)) (.sl (.int .i64))) x.1, .dat (.p (.sl (.int .i64)) (.sl (.int .i64))) x.2, .raw false [(.c (.func (.func 169) #[] #[]))]]
  hin x := []
  F x := f166_169 x.1 x.2
  ret y := [.raw true [(.osl 0), (.osl 1)], .dat (.int .i64) y.1]
  hout y := [(0, .arr 3 (.int .i64) y.2.1), (1, .arr 57 (.int .i64) y.2.2)]
  nout := 2
theorem C166_169_vc (a : (List Int) × (List Int)) (b : (List Int) × (List Int)) (y : Int × (List Int) × (List Int)) (hF : f166_169 a b = some y) : vc Tryz.prog tab Tryz.f166.ntmps 0 (match Tryz.f166.body with | some c => c | none => .skip) (retK tab C166_169 Tryz.f166.results.toList y) (C166_169.shIn (a, b)).st := by
  unfold f166_169 at hF
  refine Or.inl ?_
  obtain ⟨z5, hz5, hF⟩ := bindE hF
  refine Or.inr ⟨Sum.elim (fun z5a => [(0, ⟨[(2, .raw false [(.c (.func (.func 169) #[] #[]))]), (3, .raw false [(.ptr 0 0)]), (4, .raw false [(.ptr 1 0)]), (6, .raw false [(.ptr 2 0)])], [(0, .cells [(.d (.sl (.int .i64)) a.1), (.d (.sl (.int .i64)) a.2)]), (1, .cells [(.d (.sl (.int .i64)) b.1), (.d (.sl (.int .i64)) b.2)]), (2, .cells [(.c (.slice none 0 0)), (.c (.slice none 0 0))])], 3⟩)]) (fun z5b => [(1, ⟨[(6, .raw false [(.ptr 0 0)]), (7, .dat (.int .i64) (1 : Int))], [(0, .cells [(.c (.slice none 0 0)), (.c (.slice none 0 0))])], 1⟩)]) z5, ?_, ?_⟩
  · have hF := hz5
    clear hz5
    unfold f166_169_j2 at hF
    obtain ⟨z8, hz8, hF⟩ := bindE hF
    refine Or.inr ⟨[(0, ⟨[(2, .raw false [(.c (.func (.func 169) #[] #[]))]), (3, .raw false [(.ptr 0 0)]), (4, .raw false [(.ptr 1 0)]), (6, .raw false [(.ptr 2 0)]), (22, .dat .bool z8)], [(0, .cells [(.d (.sl (.int .i64)) a.1), (.d (.sl (.int .i64)) a.2)]), (1, .cells [(.d (.sl (.int .i64)) b.1), (.d (.sl (.int .i64)) b.2)]), (2, .cells [(.c (.slice none 0 0)), (.c (.slice none 0 0))])], 3⟩)], ?_, ?_⟩
    · have hF := hz8
      clear hz8
      unfold f166_169_j3 at hF
      obtain ⟨r9, hr9, hF⟩ := bindE hF
      refine Or.inl (And.intro f91_in (callV0 (callI C91 (a.1, a.2) r9 [] false C91_holds hr9 rfl rfl ?_)))
      refine (And.intro rfl (And.intro rfl (And.intro (fun h => nomatch h) (And.intro rfl (And.intro rfl (And.intro trivial (And.intro trivial ?_)))))))
      refine condN hF (fun hF => ?_) (fun hF => ?_)
      · refine gdYF ?_
        obtain ⟨r10, hr10, hF⟩ := bindE hF
        refine Or.inl (And.intro f91_in (callV0 (callI C91 (b.1, b.2) r10 [] false C91_holds hr10 rfl rfl ?_)))
        refine (And.intro rfl (And.intro rfl (And.intro (fun h => nomatch h) (And.intro rfl (And.intro rfl (And.intro trivial (And.intro trivial ?_)))))))
        refine gdYF ?_
        refine condF ?_
        have hz := someE hF
        subst hz
        refine Exists.intro [] (Exists.intro [] (Exists.intro [] (Exists.intro [] (Exists.intro [(0, some 0), (1, some 1), (2, some 2)] (And.intro rfl (And.intro rfl (And.intro (And.intro rfl (And.intro rfl (And.intro rfl (And.intro rfl trivial)))) (And.intro rfl (And.intro rfl (And.intro rfl trivial))))))))))
      · refine gdNF ?_
        refine gdNF ?_
        refine condT ?_
        have hz := someE hF
        subst hz
        refine Exists.intro [] (Exists.intro [] (Exists.intro [] (Exists.intro [] (Exists.intro [(0, some 0), (1, some 1), (2, some 2)] (And.intro rfl (And.intro rfl (And.intro (And.intro rfl (And.intro rfl (And.intro rfl (And.intro rfl trivial)))) (And.intro rfl (And.intro rfl (And.intro rfl trivial))))))))))
    · refine And.intro ?_ trivial
      refine condI hF (fun hF => ?_) (fun hF => ?_)
      · refine Or.inl ?_
        refine Or.inl ?_
        have hz := someE hF
        subst hz
        refine Exists.intro [] (Exists.intro [] (Exists.intro [] (Exists.intro [] (Exists.intro [(0, some 2)] (And.intro rfl (And.intro rfl (And.intro (And.intro rfl trivial) (And.intro rfl trivial))))))))
      · have hz := someE hF
        subst hz
        refine Exists.intro [] (Exists.intro [] (Exists.intro [] (Exists.intro [] (Exists.intro [(0, some 0), (1, some 1), (2, some 2)] (And.intro rfl (And.intro (And.intro rfl (And.intro rfl (And.intro rfl (And.intro rfl trivial)))) (And.intro rfl (And.intro rfl (And.intro rfl trivial)))))))))
  · rcases z5 with z5a | z5b
    · dsimp only [sumF] at hF
      refine And.intro ?_ trivial
      refine Or.inl ?_
      obtain ⟨r11, hr11, hF⟩ := bindE hF
      refine Or.inl (And.intro f195_in (callV0 (callI C195 (a.1, b.1) r11 [] false C195_holds hr11 rfl rfl ?_)))
      refine (And.intro rfl (And.intro rfl (And.intro (fun h => nomatch h) (And.intro rfl (And.intro rfl (And.intro trivial (And.intro trivial ?_)))))))
      refine Or.inl ?_
      refine Or.inl ?_
      refine condI hF (fun hF => ?_) (fun hF => ?_)
      · refine Or.inl ?_
        refine Or.inl ?_
        have hy := someE hF
        subst hy
        refine And.intro rfl (Exists.intro [] (Exists.intro [] (Exists.intro [] (Exists.intro [] (Exists.intro [(0, none), (1, none)] (And.intro rfl (And.intro rfl (And.intro (And.intro rfl trivial) (And.intro rfl (And.intro rfl trivial))))))))))
      · refine Or.inl ?_
        obtain ⟨r12, hr12, hF⟩ := bindE hF
        refine Or.inl (And.intro f171_in (callV0 (callI C171 (r11.2, (0 : Int)) r12 [] true C171_holds hr12 rfl rfl ?_)))
        refine (And.intro rfl (And.intro rfl (And.intro (fun _ => rfl) (And.intro rfl (And.intro rfl (And.intro trivial (And.intro trivial ?_)))))))
        refine Or.inl ?_
        refine Or.inl ?_
        refine Exists.intro (.take 0 (.take 1 (.take 2 (.take 4 (.take 5 (.take 6 (.alt 3 (.alt 7 (.take 8 (.take 9 .done)) .done) .done))))))) (Exists.intro [] (Exists.intro [] (And.intro rfl ?_)))
        refine And.intro trivial ?_
        obtain ⟨q7_3, hq7_3, hF⟩ := bindE hF
        refine Or.inl (And.intro f196_in (callV0 (callI C196 (a.1, r11.2) q7_3 [] true C196_holds hq7_3 rfl rfl ?_)))
        refine (And.intro rfl (And.intro rfl (And.intro (fun _ => rfl) (And.intro rfl (And.intro rfl (And.intro trivial (And.intro trivial ?_)))))))
        refine And.intro trivial ?_
        obtain ⟨q7_7, hq7_7, hF⟩ := bindE hF
        refine Or.inl (And.intro f196_in (callV0 (callI C196 (b.1, r11.2) q7_7 [] true C196_holds hq7_7 rfl rfl ?_)))
        refine (And.intro rfl (And.intro rfl (And.intro (fun _ => rfl) (And.intro rfl (And.intro rfl (And.intro trivial (And.intro trivial ?_)))))))
        refine Or.inl ?_
        refine Or.inl ?_
        obtain ⟨z13, hz13, hF⟩ := bindE hF
        refine loopI (Int × (List Int)) (List Int) (fun x => ⟨[(2, .raw false [(.c (.func (.func 169) #[] #[]))]), (3, .raw false [(.ptr 0 0)]), (4, .raw false [(.ptr 1 0)]), (6, .raw false [(.ptr 2 0)]), (10, .raw false [(.ptr 3 0)]), (12, .raw false [(.osl 4)]), (13, .raw false [(.osl 5)]), (51, .dat (.int .i64) (List.length r12.2.2 : Int)), (52, .dat (.int .i64) x.1)], [(0, .cells [(.d (.sl (.int .i64)) a.1), (.d (.sl (.int .i64)) a.2)]), (1, .cells [(.d (.sl (.int .i64)) b.1), (.d (.sl (.int .i64)) b.2)]), (2, .cells [(.c (.slice none 0 0)), (.c (.slice none 0 0))]), (3, .cells [(.osl 6), (.osl 7)]), (4, .arr 3 (.int .i64) q7_3), (5, .arr 3 (.int .i64) q7_7), (6, .arr 3 (.int .i64) r12.2.1), (7, .arr 57 (.int .i64) x.2)], 8⟩) (fun z => [(2, ⟨[(6, .raw false [(.ptr 0 0)]), (10, .raw false [(.ptr 1 0)])], [(0, .cells [(.c (.slice none 0 0)), (.c (.slice none 0 0))]), (1, .cells [(.osl 2), (.osl 3)]), (2, .arr 3 (.int .i64) r12.2.1), (3, .arr 57 (.int .i64) z)], 4⟩)]) (loopF (fun go x => f166_169_l4 a b r12 q7_3 q7_7 go x.1 x.2)) fuelN ((0 : Int), r12.2.2) z13 (And.intro hz13 (And.intro (Exists.intro [] (Exists.intro [] (Exists.intro [] (Exists.intro [] (Exists.intro [(0, some 0), (1, some 1), (2, some 2), (3, some 6), (4, some 7), (5, some 8), (6, some 4), (7, some 5)] (And.intro rfl (And.intro rfl (And.intro rfl (And.intro (And.intro rfl (And.intro rfl (And.intro rfl (And.intro rfl (And.intro rfl (And.intro rfl (And.intro rfl trivial))))))) (And.intro rfl (And.intro rfl (And.intro rfl (And.intro rfl (And.intro rfl (And.intro rfl (And.intro rfl (And.intro rfl trivial))))))))))))))))) (And.intro (fun _ _ h => loopZ h) (And.intro (fun m => curI (fun v52 => fun l7 z hF => ?_)) ?_))))
        · have hF : f166_169_l4 a b r12 q7_3 q7_7 (loopF (fun go x => f166_169_l4 a b r12 q7_3 q7_7 go x.1 x.2) m) v52 l7 = some z := hF
          unfold f166_169_l4 at hF
          refine Or.inl ?_
          refine Or.inl ?_
          refine condI hF (fun hF => ?_) (fun hF => ?_)
          · refine Or.inl ?_
            refine Or.inl ?_
            refine Exists.intro (.take 0 (.take 1 (.take 2 (.take 3 (.take 4 (.take 5 (.take 6 (.take 7 (.take 8 (.take 9 (.take 10 (.take 11 (.take 12 (.take 13 (.take 14 (.take 15 (.take 16 (.take 17 (.take 18 (.take 19 (.alt 20 (.take 21 (.alt 22 .done .done)) .done))))))))))))))))))))) (Exists.intro [] (Exists.intro [] (And.intro rfl ?_)))
            refine guardI hF (fun hF => ?_)
            refine guardI hF (fun hF => ?_)
            refine guardI hF (fun hF => ?_)
            refine guardI hF (fun hF => ?_)
            refine And.intro trivial ?_
            obtain ⟨q11_20, hq11_20, hF⟩ := bindE hF
            refine Or.inl (And.intro f169_in (callV0 (callI C169 ((rd (0 : Int) a.2 (rd (0 : Int) q7_3 v52)), (rd (0 : Int) b.2 (rd (0 : Int) q7_7 v52))) q11_20 [] false C169_holds hq11_20 rfl rfl ?_)))
            refine (And.intro rfl (And.intro rfl (And.intro (fun h => nomatch h) (And.intro rfl (And.intro rfl (And.intro trivial (And.intro trivial ?_)))))))
            refine guardI hF (fun hF => ?_)
            refine And.intro trivial ?_
            refine Or.inl ?_
            refine Exists.intro ((IntKind.i64.wrap (v52 + (1 : Int))), (List.set l7 (Int.toNat v52) q11_20)) (And.intro hF (Exists.intro [] (Exists.intro [] (Exists.intro [] (Exists.intro [] (Exists.intro [(0, some 0), (1, some 1), (2, some 2), (3, some 3), (4, some 4), (5, some 5), (6, some 6), (7, some 7)] (And.intro rfl (And.intro rfl (And.intro rfl (And.intro (And.intro rfl (And.intro rfl (And.intro rfl (And.intro rfl (And.intro rfl (And.intro rfl (And.intro rfl trivial))))))) (And.intro rfl (And.intro rfl (And.intro rfl (And.intro rfl (And.intro rfl (And.intro rfl (And.intro rfl (And.intro rfl trivial))))))))))))))))))
          · have hz := someE hF
            subst hz
            refine Exists.intro [] (Exists.intro [] (Exists.intro [] (Exists.intro [] (Exists.intro [(0, some 2), (1, some 3), (2, some 6), (3, some 7)] (And.intro rfl (And.intro (And.intro rfl (And.intro rfl trivial)) (And.intro rfl (And.intro rfl (And.intro rfl (And.intro rfl trivial))))))))))
        · refine And.intro ?_ trivial
          refine Or.inl ?_
          refine Or.inl ?_
          have hy := someE hF
          subst hy
          refine And.intro rfl (Exists.intro [] (Exists.intro [] (Exists.intro [] (Exists.intro [] (Exists.intro [(0, some 2), (1, some 3)] (And.intro rfl (And.intro rfl (And.intro (And.intro rfl trivial) (And.intro rfl (And.intro rfl trivial))))))))))
    · dsimp only [sumF] at hF
      refine And.intro ?_ trivial
      have hy := someE hF
      subst hy
      refine And.intro rfl (Exists.intro [] (Exists.intro [] (Exists.intro [] (Exists.intro [] (Exists.intro [(0, none), (1, none)] (And.intro rfl (And.intro rfl (And.intro (And.intro rfl trivial) (And.intro rfl (And.intro rfl trivial))))))))))
theorem C166_169_holds : C166_169.Holds Tryz.prog 166 := holds_of_vc tab_ok mixed (fn := Tryz.f166) (by kernel_rfl) rfl C166_169 (fun x y hF => C166_169_vc x.1 x.2 y hF)
theorem f166_169_in : ∃ fn, Tryz.prog.funcs[166]? = some fn ∧ fn.body.isSome = true ∧ (fn.name == "runtime.NumGoroutine") = false := ⟨Tryz.f166, by kernel_rfl, by kernel_rfl, by kernel_rfl⟩
end Go.Proofs
namespace Go.Proofs
open Go.AM
-- carousel/tens.Mul
def f140 (a : (List Int) × (List Int)) (b : (List Int) × (List Int)) : Option (Int × (List Int) × (List Int)) :=
  bindF (f166_169 (a.1, a.2) (b.1, b.2)) fun r1 =>
  some (r1.1, r1.2.1, r1.2.2)
def C140 : Con where
  X := ((List Int) × (List Int)) × ((List Int) × (List Int))
  Y := Int × (List Int) × (List Int)
  e := 0
  args x := [.dat (.p (.sl (.int .i64)) (.sl (.int .i64))) x.1, .dat (.p (.sl (.int .i64)) (.sl (.int .i64))) x.2]
  hin x := []
  F x := f140 x.1 x.2
  ret y := [.raw true [(.osl 0), (.osl 1)], .dat (.int .i64) y.1]
  hout y := [(0, .arr 3 (.int .i64) y.2.1), (1, .arr 57 (.int .i64) y.2.2)]
  nout := 2
theorem C140_vc (a : (List Int) × (List Int)) (b : (List Int) × (List Int)) (y : Int × (List Int) × (List Int)) (hF : f140 a b = some y) : vc Tryz.prog tab Tryz.f140.ntmps 0 (match Tryz.f140.body with | some c => c | none => .skip) (retK tab C140 Tryz.f140.results.toList y) (C140.shIn (a, b)).st := by
  unfold f140 at hF
  refine Or.inl ?_
  refine Or.inl ?_
  obtain ⟨r1, hr1, hF⟩ := bindE hF
  refine Or.inl (And.intro f166_169_in (callV0 (callI C166_169 ((a.1, a.2), (b.1, b.2)) r1 [] false C166_169_holds hr1 rfl rfl ?_)))
  refine (And.intro rfl (And.intro rfl (And.intro rfl (And.intro rfl (And.intro (fun h => nomatch h) (And.intro rfl (And.intro rfl (And.intro (And.intro rfl trivial) (And.intro trivial ?_)))))))))
  refine Or.inl ?_
  have hy := someE hF
  subst hy
  refine And.intro rfl (Exists.intro [] (Exists.intro [] (Exists.intro [] (Exists.intro [] (Exists.intro [(0, some 3), (1, some 4)] (And.intro rfl (And.intro rfl (And.intro (And.intro rfl trivial) (And.intro rfl (And.intro rfl trivial))))))))))
theorem C140_holds : C140.Holds Tryz.prog 140 := holds_of_vc tab_ok mixed (fn := Tryz.f140) (by kernel_rfl) rfl C140 (fun x y hF => C140_vc x.1 x.2 y hF)
theorem f140_in : ∃ fn, Tryz.prog.funcs[140]? = some fn ∧ fn.body.isSome = true ∧ (fn.name == "runtime.NumGoroutine") = false := ⟨Tryz.f140, by kernel_rfl, by kernel_rfl, by kernel_rfl⟩
end Go.Proofs
namespace Go.Proofs
open Go.AM
-- carousel/matm.matrix
def f170 (t : (List Int) × (List Int)) : Option Bool :=
  some ((List.length t.1 : Int) == (2 : Int))
def C170 : Con where
  X := (List Int) × (List Int)
  Y := Bool
  e := 0
  args x := [.dat (.p (.sl (.int .i64)) (.sl (.int .i64))) x]
  hin x := []
  F x := f170 x
  ret y := [.dat .bool y]
  hout y := []
  nout := 0
theorem C170_vc (t : (List Int) × (List Int)) (y : Bool) (hF : f170 t = some y) : vc Tryz.prog tab Tryz.f170.ntmps 0 (match Tryz.f170.body with | some c => c | none => .skip) (retK tab C170 Tryz.f170.results.toList y) (C170.shIn t).st := by
  unfold f170 at hF
  refine Or.inl ?_
  refine Or.inl ?_
  have hy := someE hF
  subst hy
  refine And.intro rfl (Exists.intro [] (Exists.intro [] (Exists.intro [] (Exists.intro [] (Exists.intro [] (And.intro rfl (And.intro rfl (And.intro trivial trivial))))))))
theorem C170_holds : C170.Holds Tryz.prog 170 := holds_of_vc tab_ok mixed (fn := Tryz.f170) (by kernel_rfl) rfl C170 (fun x y hF => C170_vc x y hF)
theorem f170_in : ∃ fn, Tryz.prog.funcs[170]? = some fn ∧ fn.body.isSome = true ∧ (fn.name == "runtime.NumGoroutine") = false := ⟨Tryz.f170, by kernel_rfl, by kernel_rfl, by kernel_rfl⟩
end Go.Proofs
namespace Go.Proofs
open Go.AM
-- slices.Index[[]int,int]
def f230_l1 (s : List Int) (v : Int) (go : Int → Option (Sum Int Unit)) (v8 : Int) : Option (Sum Int Unit) :=
  bif (decide (v8 < (List.length s : Int))) then
    guardF (0 ≤ v8 ∧ v8 < (List.length s : Int)) <|
    bif (v == (rd (0 : Int) s v8)) then
      some (Sum.inl v8)
    else
      go (IntKind.i64.wrap (v8 + (1 : Int)))
  else
    some (Sum.inr ())
def f230 (s : List Int) (v : Int) : Option Int :=
  bindF (loopF (fun go x => f230_l1 s v go x) fuelN (0 : Int)) fun z1 =>
  sumF z1 (fun z1a =>
    some z1a) (fun z1b =>
    some (-1 : Int))
def C230 : Con where
  X := (List Int) × Int
  Y := Int
  e := 0
  args x := [.dat (.sl (.int .i64)) x.1, .dat (.int .i64) x.2]
  hin x := []
  F x := f230 x.1 x.2
  ret y := [.dat (.int .i64) y]
  hout y := []
  nout := 0
theorem C230_vc (s : List Int) (v : Int) (y : Int) (hF : f230 s v = some y) : vc Tryz.prog tab Tryz.f230.ntmps 0 (match Tryz.f230.body with | some c => c | none => .skip) (retK tab C230 Tryz.f230.results.toList y) (C230.shIn (s, v)).st := by
  unfold f230 at hF
  refine Or.inl ?_
  refine Or.inl ?_
  refine Or.inl ?_
  obtain ⟨z1, hz1, hF⟩ := bindE hF
  refine loopI Int (Sum Int Unit) (fun x => ⟨[(0, .dat (.sl (.int .i64)) s), (1, .dat (.int .i64) v), (7, .dat (.int .i64) (List.length s : Int)), (8, .dat (.int .i64) x)], [], 0⟩) (fun z => Sum.elim (fun za => [(1, ⟨[(4, .dat (.int .i64) za)], [], 0⟩)]) (fun zb => [(2, ⟨[], [], 0⟩)]) z) (loopF (fun go x => f230_l1 s v go x)) fuelN (0 : Int) z1 (And.intro hz1 (And.intro (Exists.intro [] (Exists.intro [] (Exists.intro [] (Exists.intro [] (Exists.intro [] (And.intro rfl (And.intro rfl (And.intro rfl (And.intro rfl (And.intro rfl (And.intro trivial trivial))))))))))) (And.intro (fun _ _ h => loopZ h) (And.intro (fun m => fun v8 z hF => ?_) ?_))))
  · have hF : f230_l1 s v (loopF (fun go x => f230_l1 s v go x) m) v8 = some z := hF
    unfold f230_l1 at hF
    refine Or.inl ?_
    refine Or.inl ?_
    refine condI hF (fun hF => ?_) (fun hF => ?_)
    · refine Or.inl ?_
      refine Or.inl ?_
      refine Or.inl ?_
      refine guardI hF (fun hF => ?_)
      refine condI hF (fun hF => ?_) (fun hF => ?_)
      · refine Or.inl ?_
        have hz := someE hF
        subst hz
        refine Exists.intro [] (Exists.intro [] (Exists.intro [] (Exists.intro [] (Exists.intro [] (And.intro rfl (And.intro rfl (And.intro trivial trivial)))))))
      · refine Exists.intro (IntKind.i64.wrap (v8 + (1 : Int))) (And.intro hF (Exists.intro [] (Exists.intro [] (Exists.intro [] (Exists.intro [] (Exists.intro [] (And.intro rfl (And.intro rfl (And.intro rfl (And.intro rfl (And.intro rfl (And.intro trivial trivial))))))))))))
    · have hz := someE hF
      subst hz
      refine Exists.intro [] (Exists.intro [] (Exists.intro [] (Exists.intro [] (Exists.intro [] (And.intro rfl (And.intro trivial trivial))))))
  · rcases z1 with z1a | z1b
    · dsimp only [sumF] at hF
      refine And.intro ?_ trivial
      have hy := someE hF
      subst hy
      refine And.intro rfl (Exists.intro [] (Exists.intro [] (Exists.intro [] (Exists.intro [] (Exists.intro [] (And.intro rfl (And.intro rfl (And.intro trivial trivial))))))))
    · dsimp only [sumF] at hF
      refine And.intro ?_ trivial
      refine Or.inl ?_
      have hy := someE hF
      subst hy
      refine And.intro rfl (Exists.intro [] (Exists.intro [] (Exists.intro [] (Exists.intro [] (Exists.intro [] (And.intro rfl (And.intro rfl (And.intro trivial trivial))))))))
theorem C230_holds : C230.Holds Tryz.prog 230 := holds_of_vc tab_ok mixed (fn := Tryz.f230) (by kernel_rfl) rfl C230 (fun x y hF => C230_vc x.1 x.2 y hF)
theorem f230_in : ∃ fn, Tryz.prog.funcs[230]? = some fn ∧ fn.body.isSome = true ∧ (fn.name == "runtime.NumGoroutine") = false := ⟨Tryz.f230, by kernel_rfl, by kernel_rfl, by kernel_rfl⟩
end Go.Proofs
namespace Go.Proofs
open Go.AM
-- slices.Contains[[]int,int]
def f225 (s : List Int) (v : Int) : Option Bool :=
  bindF (f230 s v) fun r1 =>
  some (decide (r1 ≥ (0 : Int)))
def C225 : Con where
  X := (List Int) × Int
  Y := Bool
  e := 0
  args x := [.dat (.sl (.int .i64)) x.1, .dat (.int .i64) x.2]
  hin x := []
  F x := f225 x.1 x.2
  ret y := [.dat .bool y]
  hout y := []
  nout := 0
theorem C225_vc (s : List Int) (v : Int) (y : Bool) (hF : f225 s v = some y) : vc Tryz.prog tab Tryz.f225.ntmps 0 (match Tryz.f225.body with | some c => c | none => .skip) (retK tab C225 Tryz.f225.results.toList y) (C225.shIn (s, v)).st := by
  unfold f225 at hF
  refine Or.inl ?_
  refine Or.inl ?_
  obtain ⟨r1, hr1, hF⟩ := bindE hF
  refine Or.inl (And.intro f230_in (callV0 (callI C230 (s, v) r1 [] false C230_holds hr1 rfl rfl ?_)))
  refine (And.intro rfl (And.intro rfl (And.intro (fun h => nomatch h) (And.intro rfl (And.intro rfl (And.intro trivial (And.intro trivial ?_)))))))
  have hy := someE hF
  subst hy
  refine And.intro rfl (Exists.intro [] (Exists.intro [] (Exists.intro [] (Exists.intro [] (Exists.intro [] (And.intro rfl (And.intro rfl (And.intro trivial trivial))))))))
theorem C225_holds : C225.Holds Tryz.prog 225 := holds_of_vc tab_ok mixed (fn := Tryz.f225) (by kernel_rfl) rfl C225 (fun x y hF => C225_vc x.1 x.2 y hF)
theorem f225_in : ∃ fn, Tryz.prog.funcs[225]? = some fn ∧ fn.body.isSome = true ∧ (fn.name == "runtime.NumGoroutine") = false := ⟨Tryz.f225, by kernel_rfl, by kernel_rfl, by kernel_rfl⟩
end Go.Proofs
namespace Go.Proofs
open Go.AM
-- carousel/tens.permutes
def f204_l1 (order : List Int) (n : Int) (go : Int → Option (Sum Unit Unit)) (v11 : Int) : Option (Sum Unit Unit) :=
  bif (decide (v11 < n)) then
    bindF (f225 order v11) fun r4 =>
    bif (!r4) then
      some (Sum.inl ())
    else
      go (IntKind.i64.wrap (v11 + (1 : Int)))
  else
    some (Sum.inr ())
def f204 (order : List Int) (n : Int) : Option Bool :=
  bif ((List.length order : Int) != n) then
    some false
  else
    bindF (loopF (fun go x => f204_l1 order n go x) fuelN (0 : Int)) fun z3 =>
    sumF z3 (fun z3a =>
      some false) (fun z3b =>
      some true)
def C204 : Con where
  X := (List Int) × Int
  Y := Bool
  e := 0
  args x := [.dat (.sl (.int .i64)) x.1, .dat (.int .i64) x.2]
  hin x := []
  F x := f204 x.1 x.2
  ret y := [.dat .bool y]
  hout y := []
  nout := 0
theorem C204_vc (order : List Int) (n : Int) (y : Bool) (hF : f204 order n = some y) : vc Tryz.prog tab Tryz.f204.ntmps 0 (match Tryz.f204.body with | some c => c | none => .skip) (retK tab C204 Tryz.f204.results.toList y) (C204.shIn (order, n)).st := by
  unfold f204 at hF
  refine Or.inl ?_
  refine Or.inl ?_
  refine Or.inl ?_
  refine condI hF (fun hF => ?_) (fun hF => ?_)
  · refine Or.inl ?_
    have hy := someE hF
    subst hy
    refine And.intro rfl (Exists.intro [] (Exists.intro [] (Exists.intro [] (Exists.intro [] (Exists.intro [] (And.intro rfl (And.intro rfl (And.intro trivial trivial))))))))
  · refine Or.inl ?_
    refine Or.inl ?_
    obtain ⟨z3, hz3, hF⟩ := bindE hF
    refine loopI Int (Sum Unit Unit) (fun x => ⟨[(0, .dat (.sl (.int .i64)) order), (10, .dat (.int .i64) n), (11, .dat (.int .i64) x)], [], 0⟩) (fun z => Sum.elim (fun za => [(1, ⟨[(4, .dat .bool false)], [], 0⟩)]) (fun zb => [(2, ⟨[], [], 0⟩)]) z) (loopF (fun go x => f204_l1 order n go x)) fuelN (0 : Int) z3 (And.intro hz3 (And.intro (Exists.intro [] (Exists.intro [] (Exists.intro [] (Exists.intro [] (Exists.intro [] (And.intro rfl (And.intro rfl (And.intro rfl (And.intro rfl (And.intro trivial trivial)))))))))) (And.intro (fun _ _ h => loopZ h) (And.intro (fun m => fun v11 z hF => ?_) ?_))))
    · have hF : f204_l1 order n (loopF (fun go x => f204_l1 order n go x) m) v11 = some z := hF
      unfold f204_l1 at hF
      refine Or.inl ?_
      refine Or.inl ?_
      refine condI hF (fun hF => ?_) (fun hF => ?_)
      · refine Or.inl ?_
        refine Or.inl ?_
        refine Or.inl ?_
        obtain ⟨r4, hr4, hF⟩ := bindE hF
        refine Or.inl (And.intro f225_in (callV0 (callI C225 (order, v11) r4 [] false C225_holds hr4 rfl rfl ?_)))
        refine (And.intro rfl (And.intro rfl (And.intro (fun h => nomatch h) (And.intro rfl (And.intro rfl (And.intro trivial (And.intro trivial ?_)))))))
        refine condI hF (fun hF => ?_) (fun hF => ?_)
        · refine Or.inl ?_
          have hz := someE hF
          subst hz
          refine Exists.intro [] (Exists.intro [] (Exists.intro [] (Exists.intro [] (Exists.intro [] (And.intro rfl (And.intro rfl (And.intro trivial trivial)))))))
        · refine Exists.intro (IntKind.i64.wrap (v11 + (1 : Int))) (And.intro hF (Exists.intro [] (Exists.intro [] (Exists.intro [] (Exists.intro [] (Exists.intro [] (And.intro rfl (And.intro rfl (And.intro rfl (And.intro rfl (And.intro trivial trivial)))))))))))
      · have hz := someE hF
        subst hz
        refine Exists.intro [] (Exists.intro [] (Exists.intro [] (Exists.intro [] (Exists.intro [] (And.intro rfl (And.intro trivial trivial))))))
    · rcases z3 with z3a | z3b
      · dsimp only [sumF] at hF
        refine And.intro ?_ trivial
        have hy := someE hF
        subst hy
        refine And.intro rfl (Exists.intro [] (Exists.intro [] (Exists.intro [] (Exists.intro [] (Exists.intro [] (And.intro rfl (And.intro rfl (And.intro trivial trivial))))))))
      · dsimp only [sumF] at hF
        refine And.intro ?_ trivial
        refine Or.inl ?_
        have hy := someE hF
        subst hy
        refine And.intro rfl (Exists.intro [] (Exists.intro [] (Exists.intro [] (Exists.intro [] (Exists.intro [] (And.intro rfl (And.intro rfl (And.intro trivial trivial))))))))
theorem C204_holds : C204.Holds Tryz.prog 204 := holds_of_vc tab_ok mixed (fn := Tryz.f204) (by kernel_rfl) rfl C204 (fun x y hF => C204_vc x.1 x.2 y hF)
theorem f204_in : ∃ fn, Tryz.prog.funcs[204]? = some fn ∧ fn.body.isSome = true ∧ (fn.name == "runtime.NumGoroutine") = false := ⟨Tryz.f204, by kernel_rfl, by kernel_rfl, by kernel_rfl⟩
end Go.Proofs
namespace Go.Proofs
open Go.AM
-- carousel/shape.Place
def f205_j1 (d : List Int) (at_ : Int) : Option (Sum Unit Unit) :=
  bif (decide (at_ < (0 : Int))) then
    some (Sum.inr ())
  else
    bindF (f117 d) fun r3 =>
    bif (decide (at_ ≥ r3)) then
      some (Sum.inr ())
    else
      some (Sum.inl ())
def f205_l2 (d : List Int) (go : (Int × Int × (List Int)) → Option (List Int)) (at__2 : Int) (i : Int) (l0 : List Int) : Option (List Int) :=
  bif (decide (i ≥ (0 : Int))) then
    guardF (0 ≤ i ∧ i < (List.length d : Int)) <|
    guardF ((rd (0 : Int) d i) ≠ 0) <|
    guardF (0 ≤ i ∧ i < (List.length l0 : Int)) <|
    guardF (0 ≤ i ∧ i < (List.length d : Int)) <|
    guardF ((rd (0 : Int) d i) ≠ 0) <|
    go ((IntKind.i64.wrap (Int.tdiv at__2 (rd (0 : Int) d i))), (IntKind.i64.wrap (i - (1 : Int))), (List.set l0 (Int.toNat i) (Int.tmod at__2 (rd (0 : Int) d i))))
  else
    some l0
def f205 (d : List Int) (at_ : Int) : Option (Bool × (List Int)) :=
  bindF (f205_j1 d at_) fun z2 =>
  sumF z2 (fun z2a =>
    guardF (0 ≤ (List.length d : Int) ∧ (List.length d : Int) ≤ (List.length d : Int) ∧ Int.toNat (List.length d : Int) * 8 ≤ 140737488355328) <|
    bindF (loopF (fun go x => f205_l2 d go x.1 x.2.1 x.2.2) fuelN (at_, (IntKind.i64.wrap ((List.length d : Int) - (1 : Int))), (List.replicate (Int.toNat (List.length d : Int)) (0 : Int)))) fun z4 =>
    some (true, z4)) (fun z2b =>
    some (false, []))
def C205 : Con where
  X := (List Int) × Int
  Y := Bool × (List Int)
  e := 0
  args x := [.dat (.sl (.int .i64)) x.1, .dat (.int .i64) x.2]
  hin x := []
  F x := f205 x.1 x.2
  ret y := [.raw false [(.osl 0)], .dat .bool y.1]
  hout y := [(0, .arr 3 (.int .i64) y.2)]
  nout := 1
theorem C205_vc (d : List Int) (at_ : Int) (y : Bool × (List Int)) (hF : f205 d at_ = some y) : vc Tryz.prog tab Tryz.f205.ntmps 0 (match Tryz.f205.body with | some c => c | none => .skip) (retK tab C205 Tryz.f205.results.toList y) (C205.shIn (d, at_)).st := by
  unfold f205 at hF
  refine Or.inl ?_
  obtain ⟨z2, hz2, hF⟩ := bindE hF
  refine Or.inr ⟨Sum.elim (fun z2a => [(0, ⟨[(0, .dat (.sl (.int .i64)) d), (1, .dat (.int .i64) at_)], [], 0⟩)]) (fun z2b => [(1, ⟨[(4, .raw false [(.c (.slice none 0 0))]), (5, .dat .bool false)], [], 0⟩)]) z2, ?_, ?_⟩
  · have hF := hz2
    clear hz2
    unfold f205_j1 at hF
    refine Or.inl ?_
    refine condN hF (fun hF => ?_) (fun hF => ?_)
    · refine gdYF ?_
      refine gdYF ?_
      obtain ⟨r3, hr3, hF⟩ := bindE hF
      refine Or.inl (And.intro f117_in (callV0 (callI C117 d r3 [] false C117_holds hr3 rfl rfl ?_)))
      refine (And.intro rfl (And.intro (fun h => nomatch h) (And.intro rfl (And.intro rfl (And.intro trivial (And.intro trivial ?_))))))
      refine gdYF ?_
      refine condF ?_
      refine condI hF (fun hF => ?_) (fun hF => ?_)
      · refine Or.inl ?_
        have hz := someE hF
        subst hz
        refine Exists.intro [] (Exists.intro [] (Exists.intro [] (Exists.intro [] (Exists.intro [] (And.intro rfl (And.intro rfl (And.intro (And.intro rfl trivial) trivial)))))))
      · have hz := someE hF
        subst hz
        refine Exists.intro [] (Exists.intro [] (Exists.intro [] (Exists.intro [] (Exists.intro [] (And.intro rfl (And.intro rfl (And.intro rfl (And.intro trivial trivial))))))))
    · refine gdNF ?_
      refine gdNF ?_
      refine gdNF ?_
      refine condT ?_
      refine condT ?_
      refine Or.inl ?_
      have hz := someE hF
      subst hz
      refine Exists.intro [] (Exists.intro [] (Exists.intro [] (Exists.intro [] (Exists.intro [] (And.intro rfl (And.intro rfl (And.intro (And.intro rfl trivial) trivial)))))))
  · rcases z2 with z2a | z2b
    · dsimp only [sumF] at hF
      refine And.intro ?_ trivial
      refine Or.inl ?_
      refine guardI hF (fun hF => ?_)
      refine Or.inl ?_
      refine Or.inl ?_
      obtain ⟨z4, hz4, hF⟩ := bindE hF
      refine loopI (Int × Int × (List Int)) (List Int) (fun x => ⟨[(0, .dat (.sl (.int .i64)) d), (1, .dat (.int .i64) x.1), (6, .raw false [(.osl 0)]), (7, .dat (.int .i64) x.2.1)], [(0, .arr 3 (.int .i64) x.2.2)], 1⟩) (fun z => [(2, ⟨[(6, .raw false [(.osl 0)])], [(0, .arr 3 (.int .i64) z)], 1⟩)]) (loopF (fun go x => f205_l2 d go x.1 x.2.1 x.2.2)) fuelN (at_, (IntKind.i64.wrap ((List.length d : Int) - (1 : Int))), (List.replicate (Int.toNat (List.length d : Int)) (0 : Int))) z4 (And.intro hz4 (And.intro (Exists.intro [] (Exists.intro [] (Exists.intro [] (Exists.intro [] (Exists.intro [(0, some 0)] (And.intro rfl (And.intro rfl (And.intro rfl (And.intro rfl (And.intro (And.intro rfl trivial) (And.intro rfl trivial))))))))))) (And.intro (fun _ _ h => loopZ h) (And.intro (fun m => curI (fun at__2 => curI (fun i => fun l0 z hF => ?_))) ?_))))
      · have hF : f205_l2 d (loopF (fun go x => f205_l2 d go x.1 x.2.1 x.2.2) m) at__2 i l0 = some z := hF
        unfold f205_l2 at hF
        refine Or.inl ?_
        refine Or.inl ?_
        refine condI hF (fun hF => ?_) (fun hF => ?_)
        · refine Or.inl ?_
          refine Or.inl ?_
          refine guardI hF (fun hF => ?_)
          refine guardI hF (fun hF => ?_)
          refine guardI hF (fun hF => ?_)
          refine Or.inl ?_
          refine guardI hF (fun hF => ?_)
          refine guardI hF (fun hF => ?_)
          refine Exists.intro ((IntKind.i64.wrap (Int.tdiv at__2 (rd (0 : Int) d i))), (IntKind.i64.wrap (i - (1 : Int))), (List.set l0 (Int.toNat i) (Int.tmod at__2 (rd (0 : Int) d i)))) (And.intro hF (Exists.intro [] (Exists.intro [] (Exists.intro [] (Exists.intro [] (Exists.intro [(0, some 0)] (And.intro rfl (And.intro rfl (And.intro rfl (And.intro rfl (And.intro (And.intro rfl trivial) (And.intro rfl trivial))))))))))))
        · have hz := someE hF
          subst hz
          refine Exists.intro [] (Exists.intro [] (Exists.intro [] (Exists.intro [] (Exists.intro [(0, some 0)] (And.intro rfl (And.intro (And.intro rfl trivial) (And.intro rfl trivial)))))))
      · refine And.intro ?_ trivial
        refine Or.inl ?_
        have hy := someE hF
        subst hy
        refine And.intro rfl (Exists.intro [] (Exists.intro [] (Exists.intro [] (Exists.intro [] (Exists.intro [(0, some 0)] (And.intro rfl (And.intro rfl (And.intro (And.intro rfl trivial) (And.intro rfl trivial)))))))))
    · dsimp only [sumF] at hF
      refine And.intro ?_ trivial
      have hy := someE hF
      subst hy
      refine And.intro rfl (Exists.intro [] (Exists.intro [] (Exists.intro [] (Exists.intro [] (Exists.intro [(0, none)] (And.intro rfl (And.intro rfl (And.intro (And.intro rfl trivial) (And.intro rfl trivial)))))))))
theorem C205_holds : C205.Holds Tryz.prog 205 := holds_of_vc tab_ok mixed (fn := Tryz.f205) (by kernel_rfl) rfl C205 (fun x y hF => C205_vc x.1 x.2 y hF)
theorem f205_in : ∃ fn, Tryz.prog.funcs[205]? = some fn ∧ fn.body.isSome = true ∧ (fn.name == "runtime.NumGoroutine") = false := ⟨Tryz.f205, by kernel_rfl, by kernel_rfl, by kernel_rfl⟩
end Go.Proofs
namespace Go.Proofs
open Go.AM
-- carousel/shape.At
def f206_j1 (d : List Int) (place_ : List Int) : Option (Sum Unit Unit) :=
  bindF (f65 d) fun r3 =>
  bif (!r3) then
    some (Sum.inr ())
  else
    bif ((List.length place_ : Int) != (List.length d : Int)) then
      some (Sum.inr ())
    else
      some (Sum.inl ())
def f206_j5 (d : List Int) (place_ : List Int) (v21 : Int) : Option (Sum Unit Unit) :=
  bif (decide ((rd (0 : Int) place_ v21) < (0 : Int))) then
    some (Sum.inr ())
  else
    guardF (0 ≤ v21 ∧ v21 < (List.length d : Int)) <|
    bif (decide ((rd (0 : Int) place_ v21) ≥ (rd (0 : Int) d v21))) then
      some (Sum.inr ())
    else
      some (Sum.inl ())
def f206_l4 (d : List Int) (place_ : List Int) (go : (Int × Int) → Option (Sum Unit Int)) (at_ : Int) (v21 : Int) : Option (Sum Unit Int) :=
  bif (decide (v21 < (List.length place_ : Int))) then
    guardF (0 ≤ v21 ∧ v21 < (List.length place_ : Int)) <|
    bindF (f206_j5 d place_ v21) fun z7 =>
    sumF z7 (fun z7a =>
      guardF (0 ≤ v21 ∧ v21 < (List.length d : Int)) <|
      go ((IntKind.i64.wrap ((IntKind.i64.wrap (at_ * (rd (0 : Int) d v21))) + (rd (0 : Int) place_ v21))), (IntKind.i64.wrap (v21 + (1 : Int))))) (fun z7b =>
      some (Sum.inl ()))
  else
    some (Sum.inr at_)
def f206 (d : List Int) (place_ : List Int) : Option (Int × Bool) :=
  bindF (f206_j1 d place_) fun z2 =>
  sumF z2 (fun z2a =>
    bindF (loopF (fun go x => f206_l4 d place_ go x.1 x.2) fuelN ((0 : Int), (0 : Int))) fun z6 =>
    sumF z6 (fun z6a =>
      some ((0 : Int), false)) (fun z6b =>
      some (z6b, true))) (fun z2b =>
    some ((0 : Int), false))
def C206 : Con where
  X := (List Int) × (List Int)
  Y := Int × Bool
  e := 0
  args x := [.dat (.sl (.int .i64)) x.1, .dat (.sl (.int .i64)) x.2]
  hin x := []
  F x := f206 x.1 x.2
  ret y := [.dat (.int .i64) y.1, .dat .bool y.2]
  hout y := []
  nout := 0
theorem C206_vc (d : List Int) (place_ : List Int) (y : Int × Bool) (hF : f206 d place_ = some y) : vc Tryz.prog tab Tryz.f206.ntmps 0 (match Tryz.f206.body with | some c => c | none => .skip) (retK tab C206 Tryz.f206.results.toList y) (C206.shIn (d, place_)).st := by
  unfold f206 at hF
  refine Or.inl ?_
  obtain ⟨z2, hz2, hF⟩ := bindE hF
  refine Or.inr ⟨Sum.elim (fun z2a => [(0, ⟨[(0, .dat (.sl (.int .i64)) d), (1, .dat (.sl (.int .i64)) place_)], [], 0⟩)]) (fun z2b => [(1, ⟨[(4, .dat (.int .i64) (0 : Int)), (5, .dat .bool false)], [], 0⟩)]) z2, ?_, ?_⟩
  · have hF := hz2
    clear hz2
    unfold f206_j1 at hF
    refine Or.inl ?_
    obtain ⟨r3, hr3, hF⟩ := bindE hF
    refine Or.inl (And.intro f65_in (callV0 (callI C65 d r3 [] false C65_holds hr3 rfl rfl ?_)))
    refine (And.intro rfl (And.intro (fun h => nomatch h) (And.intro rfl (And.intro rfl (And.intro trivial (And.intro trivial ?_))))))
    refine condN hF (fun hF => ?_) (fun hF => ?_)
    · refine gdYF ?_
      refine gdYF ?_
      refine gdYF ?_
      refine gdYF ?_
      refine condF ?_
      refine condI hF (fun hF => ?_) (fun hF => ?_)
      · refine Or.inl ?_
        have hz := someE hF
        subst hz
        refine Exists.intro [] (Exists.intro [] (Exists.intro [] (Exists.intro [] (Exists.intro [] (And.intro rfl (And.intro rfl (And.intro rfl (And.intro trivial trivial))))))))
      · have hz := someE hF
        subst hz
        refine Exists.intro [] (Exists.intro [] (Exists.intro [] (Exists.intro [] (Exists.intro [] (And.intro rfl (And.intro rfl (And.intro rfl (And.intro trivial trivial))))))))
    · refine gdNF ?_
      refine gdNF ?_
      refine gdNF ?_
      refine gdNF ?_
      refine condT ?_
      refine condT ?_
      refine Or.inl ?_
      have hz := someE hF
      subst hz
      refine Exists.intro [] (Exists.intro [] (Exists.intro [] (Exists.intro [] (Exists.intro [] (And.intro rfl (And.intro rfl (And.intro rfl (And.intro trivial trivial))))))))
  · rcases z2 with z2a | z2b
    · dsimp only [sumF] at hF
      refine And.intro ?_ trivial
      refine Or.inl ?_
      refine Or.inl ?_
      refine Or.inl ?_
      obtain ⟨z6, hz6, hF⟩ := bindE hF
      refine loopI (Int × Int) (Sum Unit Int) (fun x => ⟨[(0, .dat (.sl (.int .i64)) d), (6, .dat (.int .i64) x.1), (19, .dat (.sl (.int .i64)) place_), (20, .dat (.int .i64) (List.length place_ : Int)), (21, .dat (.int .i64) x.2)], [], 0⟩) (fun z => Sum.elim (fun za => [(1, ⟨[(4, .dat (.int .i64) (0 : Int)), (5, .dat .bool false)], [], 0⟩)]) (fun zb => [(2, ⟨[(6, .dat (.int .i64) zb)], [], 0⟩)]) z) (loopF (fun go x => f206_l4 d place_ go x.1 x.2)) fuelN ((0 : Int), (0 : Int)) z6 (And.intro hz6 (And.intro (Exists.intro [] (Exists.intro [] (Exists.intro [] (Exists.intro [] (Exists.intro [] (And.intro rfl (And.intro rfl (And.intro rfl (And.intro rfl (And.intro rfl (And.intro rfl (And.intro trivial trivial)))))))))))) (And.intro (fun _ _ h => loopZ h) (And.intro (fun m => curI (fun at_ => fun v21 z hF => ?_)) ?_))))
      · have hF : f206_l4 d place_ (loopF (fun go x => f206_l4 d place_ go x.1 x.2) m) at_ v21 = some z := hF
        unfold f206_l4 at hF
        refine Or.inl ?_
        refine Or.inl ?_
        refine condI hF (fun hF => ?_) (fun hF => ?_)
        · refine Or.inl ?_
          refine Or.inl ?_
          refine guardI hF (fun hF => ?_)
          obtain ⟨z7, hz7, hF⟩ := bindE hF
          refine Or.inr ⟨Sum.elim (fun z7a => [(0, ⟨[(0, .dat (.sl (.int .i64)) d), (6, .dat (.int .i64) at_), (7, .dat (.int .i64) v21), (8, .dat (.int .i64) (rd (0 : Int) place_ v21)), (19, .dat (.sl (.int .i64)) place_), (20, .dat (.int .i64) (List.length place_ : Int)), (21, .dat (.int .i64) v21)], [], 0⟩)]) (fun z7b => [(1, ⟨[(4, .dat (.int .i64) (0 : Int)), (5, .dat .bool false)], [], 0⟩)]) z7, ?_, ?_⟩
          · have hF := hz7
            clear hz7
            unfold f206_j5 at hF
            refine Or.inl ?_
            refine condN hF (fun hF => ?_) (fun hF => ?_)
            · refine gdYF ?_
              refine gdYF ?_
              refine gdYF ?_
              refine guardI hF (fun hF => ?_)
              refine gdYF ?_
              refine gdYF ?_
              refine condF ?_
              refine condI hF (fun hF => ?_) (fun hF => ?_)
              · refine Or.inl ?_
                have hz := someE hF
                subst hz
                refine Exists.intro [] (Exists.intro [] (Exists.intro [] (Exists.intro [] (Exists.intro [] (And.intro rfl (And.intro rfl (And.intro rfl (And.intro trivial trivial))))))))
              · have hz := someE hF
                subst hz
                refine Exists.intro [] (Exists.intro [] (Exists.intro [] (Exists.intro [] (Exists.intro [] (And.intro rfl (And.intro rfl (And.intro rfl (And.intro rfl (And.intro rfl (And.intro rfl (And.intro rfl (And.intro rfl (And.intro trivial trivial)))))))))))))
            · refine gdNF ?_
              refine gdNF ?_
              refine gdNF ?_
              refine gdNF ?_
              refine gdNF ?_
              refine condT ?_
              refine condT ?_
              refine Or.inl ?_
              have hz := someE hF
              subst hz
              refine Exists.intro [] (Exists.intro [] (Exists.intro [] (Exists.intro [] (Exists.intro [] (And.intro rfl (And.intro rfl (And.intro rfl (And.intro trivial trivial))))))))
          · rcases z7 with z7a | z7b
            · dsimp only [sumF] at hF
              refine And.intro ?_ trivial
              refine guardI hF (fun hF => ?_)
              refine Exists.intro ((IntKind.i64.wrap ((IntKind.i64.wrap (at_ * (rd (0 : Int) d v21))) + (rd (0 : Int) place_ v21))), (IntKind.i64.wrap (v21 + (1 : Int)))) (And.intro hF (Exists.intro [] (Exists.intro [] (Exists.intro [] (Exists.intro [] (Exists.intro [] (And.intro rfl (And.intro rfl (And.intro rfl (And.intro rfl (And.intro rfl (And.intro rfl (And.intro trivial trivial)))))))))))))
            · dsimp only [sumF] at hF
              refine And.intro ?_ trivial
              have hz := someE hF
              subst hz
              refine Exists.intro [] (Exists.intro [] (Exists.intro [] (Exists.intro [] (Exists.intro [] (And.intro rfl (And.intro rfl (And.intro rfl (And.intro trivial trivial))))))))
        · have hz := someE hF
          subst hz
          refine Exists.intro [] (Exists.intro [] (Exists.intro [] (Exists.intro [] (Exists.intro [] (And.intro rfl (And.intro rfl (And.intro trivial trivial)))))))
      · rcases z6 with z6a | z6b
        · dsimp only [sumF] at hF
          refine And.intro ?_ trivial
          have hy := someE hF
          subst hy
          refine And.intro rfl (Exists.intro [] (Exists.intro [] (Exists.intro [] (Exists.intro [] (Exists.intro [] (And.intro rfl (And.intro rfl (And.intro rfl (And.intro trivial trivial)))))))))
        · dsimp only [sumF] at hF
          refine And.intro ?_ trivial
          refine Or.inl ?_
          have hy := someE hF
          subst hy
          refine And.intro rfl (Exists.intro [] (Exists.intro [] (Exists.intro [] (Exists.intro [] (Exists.intro [] (And.intro rfl (And.intro rfl (And.intro rfl (And.intro trivial trivial)))))))))
    · dsimp only [sumF] at hF
      refine And.intro ?_ trivial
      have hy := someE hF
      subst hy
      refine And.intro rfl (Exists.intro [] (Exists.intro [] (Exists.intro [] (Exists.intro [] (Exists.intro [] (And.intro rfl (And.intro rfl (And.intro rfl (And.intro trivial trivial)))))))))
theorem C206_holds : C206.Holds Tryz.prog 206 := holds_of_vc tab_ok mixed (fn := Tryz.f206) (by kernel_rfl) rfl C206 (fun x y hF => C206_vc x.1 x.2 y hF)
theorem f206_in : ∃ fn, Tryz.prog.funcs[206]? = some fn ∧ fn.body.isSome = true ∧ (fn.name == "runtime.NumGoroutine") = false := ⟨Tryz.f206, by kernel_rfl, by kernel_rfl, by kernel_rfl⟩
end Go.Proofs
