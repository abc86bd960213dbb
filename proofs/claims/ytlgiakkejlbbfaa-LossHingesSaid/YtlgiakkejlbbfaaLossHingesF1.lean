import Derived.Test.YtlgiakkejlbbfaaLossHingesF0
set_option linter.unusedVariables false
set_option maxRecDepth 100000
set_option maxHeartbeats 8000000
namespace Go.Proofs
open Go.AM
-- carousel/tens.both
def f55_56_j3 (a : (List Int) × (List Int)) (b : (List Int) × (List Int)) : Option Bool :=
  bindF (f14 (a.1, a.2)) fun r9 =>
  bif (!r9) then
    some true
  else
    bindF (f14 (b.1, b.2)) fun r10 =>
    some (!r10)
def f55_56_j2 (a : (List Int) × (List Int)) (b : (List Int) × (List Int)) : Option (Sum Unit Unit) :=
  bindF (f55_56_j3 a b) fun z8 =>
  bif z8 then
    some (Sum.inr ())
  else
    some (Sum.inl ())
def f55_56_l4 (a : (List Int) × (List Int)) (b : (List Int) × (List Int)) (r12 : Int × (List Int) × (List Int)) (q7_3 : List Int) (q7_7 : List Int) (go : (Int × (List Int)) → Option (List Int)) (v52 : Int) (l7 : List Int) : Option (List Int) :=
  bif (decide (v52 < (List.length r12.2.2 : Int))) then
    guardF (0 ≤ v52 ∧ v52 < (List.length q7_3 : Int)) <|
    guardF (0 ≤ (rd (0 : Int) q7_3 v52) ∧ (rd (0 : Int) q7_3 v52) < (List.length a.2 : Int)) <|
    guardF (0 ≤ v52 ∧ v52 < (List.length q7_7 : Int)) <|
    guardF (0 ≤ (rd (0 : Int) q7_7 v52) ∧ (rd (0 : Int) q7_7 v52) < (List.length b.2 : Int)) <|
    bindF (f56 (rd (0 : Int) a.2 (rd (0 : Int) q7_3 v52)) (rd (0 : Int) b.2 (rd (0 : Int) q7_7 v52))) fun q11_20 =>
    guardF (0 ≤ v52 ∧ v52 < (List.length l7 : Int)) <|
    go ((IntKind.i64.wrap (v52 + (1 : Int))), (List.set l7 (Int.toNat v52) q11_20))
  else
    some l7
def f55_56 (a : (List Int) × (List Int)) (b : (List Int) × (List Int)) : Option (Int × (List Int) × (List Int)) :=
  bindF (f55_56_j2 a b) fun z5 =>
  sumF z5 (fun z5a =>
    bindF (f75 a.1 b.1) fun r11 =>
    bif (r11.1 != (0 : Int)) then
      some (r11.1, [], [])
    else
      bindF (f23 r11.2 (0 : Int)) fun r12 =>
      bindF (f76 a.1 r11.2) fun q7_3 =>
      bindF (f76 b.1 r11.2) fun q7_7 =>
      bindF (loopF (fun go x => f55_56_l4 a b r12 q7_3 q7_7 go x.1 x.2) fuelN ((0 : Int), r12.2.2)) fun z13 =>
      some ((0 : Int), r12.2.1, z13)) (fun z5b =>
    some ((1 : Int), [], []))
def C55_56 : Con where
  X := ((List Int) × (List Int)) × ((List Int) × (List Int))
  Y := Int × (List Int) × (List Int)
  e := 0
  args x := [.dat (.p (.sl (.int .i64)) (.sl (.int .i64))) x.1, .dat (.p (.sl (.int .i64)) (.sl (.int .i64))) x.2, .raw false [(.c (.func (.func 56) #[] #[]))]]
  hin x := []
  F x := f55_56 x.1 x.2
  ret y := [.raw true [(.osl 0), (.osl 1)], .dat (.int .i64) y.1]
  hout y := [(0, .arr 3 (.int .i64) y.2.1), (1, .arr 24 (.int .i64) y.2.2)]
  nout := 2
theorem C55_56_vc (a : (List Int) × (List Int)) (b : (List Int) × (List Int)) (y : Int × (List Int) × (List Int)) (hF : f55_56 a b = some y) : vc Try.prog tab Try.f55.ntmps 0 (match Try.f55.body with | some c => c | none => .skip) (retK tab C55_56 Try.f55.results.toList y) (C55_56.shIn (a, b)).st := by
  unfold f55_56 at hF
  refine Or.inl ?_
  obtain ⟨z5, hz5, hF⟩ := bindE hF
  refine Or.inr ⟨Sum.elim (fun z5a => [(0, ⟨[(2, .raw false [(.c (.func (.func 56) #[] #[]))]), (3, .raw false [(.ptr 0 0)]), (4, .raw false [(.ptr 1 0)]), (6, .raw false [(.ptr 2 0)])], [(0, .cells [(.d (.sl (.int .i64)) a.1), (.d (.sl (.int .i64)) a.2)]), (1, .cells [(.d (.sl (.int .i64)) b.1), (.d (.sl (.int .i64)) b.2)]), (2, .cells [(.c (.slice none 0 0)), (.c (.slice none 0 0))])], 3⟩)]) (fun z5b => [(1, ⟨[(6, .raw false [(.ptr 0 0)]), (7, .dat (.int .i64) (1 : Int))], [(0, .cells [(.c (.slice none 0 0)), (.c (.slice none 0 0))])], 1⟩)]) z5, ?_, ?_⟩
  · have hF := hz5
    clear hz5
    unfold f55_56_j2 at hF
    obtain ⟨z8, hz8, hF⟩ := bindE hF
    refine Or.inr ⟨[(0, ⟨[(2, .raw false [(.c (.func (.func 56) #[] #[]))]), (3, .raw false [(.ptr 0 0)]), (4, .raw false [(.ptr 1 0)]), (6, .raw false [(.ptr 2 0)]), (22, .dat .bool z8)], [(0, .cells [(.d (.sl (.int .i64)) a.1), (.d (.sl (.int .i64)) a.2)]), (1, .cells [(.d (.sl (.int .i64)) b.1), (.d (.sl (.int .i64)) b.2)]), (2, .cells [(.c (.slice none 0 0)), (.c (.slice none 0 0))])], 3⟩)], ?_, ?_⟩
    · have hF := hz8
      clear hz8
      unfold f55_56_j3 at hF
      obtain ⟨r9, hr9, hF⟩ := bindE hF
      refine Or.inl (And.intro f14_in (callV0 (callI C14 (a.1, a.2) r9 [] false C14_holds hr9 rfl rfl ?_)))
      refine (And.intro rfl (And.intro rfl (And.intro (fun h => nomatch h) (And.intro rfl (And.intro rfl (And.intro trivial (And.intro trivial ?_)))))))
      refine condN hF (fun hF => ?_) (fun hF => ?_)
      · refine gdYF ?_
        obtain ⟨r10, hr10, hF⟩ := bindE hF
        refine Or.inl (And.intro f14_in (callV0 (callI C14 (b.1, b.2) r10 [] false C14_holds hr10 rfl rfl ?_)))
        refine (And.intro rfl (And.intro rfl (And.intro (fun h => nomatch h) (And.intro rfl (And.intro rfl (And.intro trivial (And.intro trivial ?_)))))))
        refine gdYF ?_
        refine condF ?_
        have hz := someE hF
        subst hz
        refine Exists.intro [] (Exists.intro [] (Exists.intro [] (Exists.intro [] (Exists.intro [(0, some 0), (1, some 1), (2, some 2)] (And.intro rfl (And.intro rfl (And.intro (And.intro rfl (And.intro rfl (And.intro rfl (And.intro rfl trivial)))) (And.intro rfl (And.intro rfl (And.intro rfl trivial))))))))))
      · refine gdNF ?_
        refine gdNF ?_
        refine condT ?_
        have hz := someE hF
        subst hz
        refine Exists.intro [] (Exists.intro [] (Exists.intro [] (Exists.intro [] (Exists.intro [(0, some 0), (1, some 1), (2, some 2)] (And.intro rfl (And.intro rfl (And.intro (And.intro rfl (And.intro rfl (And.intro rfl (And.intro rfl trivial)))) (And.intro rfl (And.intro rfl (And.intro rfl trivial))))))))))
    · refine And.intro ?_ trivial
      refine condI hF (fun hF => ?_) (fun hF => ?_)
      · refine Or.inl ?_
        refine Or.inl ?_
        have hz := someE hF
        subst hz
        refine Exists.intro [] (Exists.intro [] (Exists.intro [] (Exists.intro [] (Exists.intro [(0, some 2)] (And.intro rfl (And.intro rfl (And.intro (And.intro rfl trivial) (And.intro rfl trivial))))))))
      · have hz := someE hF
        subst hz
        refine Exists.intro [] (Exists.intro [] (Exists.intro [] (Exists.intro [] (Exists.intro [(0, some 0), (1, some 1), (2, some 2)] (And.intro rfl (And.intro (And.intro rfl (And.intro rfl (And.intro rfl (And.intro rfl trivial)))) (And.intro rfl (And.intro rfl (And.intro rfl trivial)))))))))
  · rcases z5 with z5a | z5b
    · dsimp only [sumF] at hF
      refine And.intro ?_ trivial
      refine Or.inl ?_
      obtain ⟨r11, hr11, hF⟩ := bindE hF
      refine Or.inl (And.intro f75_in (callV0 (callI C75 (a.1, b.1) r11 [] false C75_holds hr11 rfl rfl ?_)))
      refine (And.intro rfl (And.intro rfl (And.intro (fun h => nomatch h) (And.intro rfl (And.intro rfl (And.intro trivial (And.intro trivial ?_)))))))
      refine Or.inl ?_
      refine Or.inl ?_
      refine condI hF (fun hF => ?_) (fun hF => ?_)
      · refine Or.inl ?_
        refine Or.inl ?_
        have hy := someE hF
        subst hy
        refine And.intro rfl (Exists.intro [] (Exists.intro [] (Exists.intro [] (Exists.intro [] (Exists.intro [(0, none), (1, none)] (And.intro rfl (And.intro rfl (And.intro (And.intro rfl trivial) (And.intro rfl (And.intro rfl trivial))))))))))
      · refine Or.inl ?_
        obtain ⟨r12, hr12, hF⟩ := bindE hF
        refine Or.inl (And.intro f23_in (callV0 (callI C23 (r11.2, (0 : Int)) r12 [] true C23_holds hr12 rfl rfl ?_)))
        refine (And.intro rfl (And.intro rfl (And.intro (fun _ => rfl) (And.intro rfl (And.intro rfl (And.intro trivial (And.intro trivial ?_)))))))
        refine Or.inl ?_
        refine Or.inl ?_
        refine Exists.intro (.take 0 (.take 1 (.take 2 (.take 4 (.take 5 (.take 6 (.alt 3 (.alt 7 (.take 8 (.take 9 .done)) .done) .done))))))) (Exists.intro [] (Exists.intro [] (And.intro rfl ?_)))
        refine And.intro trivial ?_
        obtain ⟨q7_3, hq7_3, hF⟩ := bindE hF
        refine Or.inl (And.intro f76_in (callV0 (callI C76 (a.1, r11.2) q7_3 [] true C76_holds hq7_3 rfl rfl ?_)))
        refine (And.intro rfl (And.intro rfl (And.intro (fun _ => rfl) (And.intro rfl (And.intro rfl (And.intro trivial (And.intro trivial ?_)))))))
        refine And.intro trivial ?_
        obtain ⟨q7_7, hq7_7, hF⟩ := bindE hF
        refine Or.inl (And.intro f76_in (callV0 (callI C76 (b.1, r11.2) q7_7 [] true C76_holds hq7_7 rfl rfl ?_)))
        refine (And.intro rfl (And.intro rfl (And.intro (fun _ => rfl) (And.intro rfl (And.intro rfl (And.intro trivial (And.intro trivial ?_)))))))
        refine Or.inl ?_
        refine Or.inl ?_
        obtain ⟨z13, hz13, hF⟩ := bindE hF
        refine loopI (Int × (List Int)) (List Int) (fun x => ⟨[(2, .raw false [(.c (.func (.func 56) #[] #[]))]), (3, .raw false [(.ptr 0 0)]), (4, .raw false [(.ptr 1 0)]), (6, .raw false [(.ptr 2 0)]), (10, .raw false [(.ptr 3 0)]), (12, .raw false [(.osl 4)]), (13, .raw false [(.osl 5)]), (51, .dat (.int .i64) (List.length r12.2.2 : Int)), (52, .dat (.int .i64) x.1)], [(0, .cells [(.d (.sl (.int .i64)) a.1), (.d (.sl (.int .i64)) a.2)]), (1, .cells [(.d (.sl (.int .i64)) b.1), (.d (.sl (.int .i64)) b.2)]), (2, .cells [(.c (.slice none 0 0)), (.c (.slice none 0 0))]), (3, .cells [(.osl 6), (.osl 7)]), (4, .arr 3 (.int .i64) q7_3), (5, .arr 3 (.int .i64) q7_7), (6, .arr 3 (.int .i64) r12.2.1), (7, .arr 24 (.int .i64) x.2)], 8⟩) (fun z => [(2, ⟨[(6, .raw false [(.ptr 0 0)]), (10, .raw false [(.ptr 1 0)])], [(0, .cells [(.c (.slice none 0 0)), (.c (.slice none 0 0))]), (1, .cells [(.osl 2), (.osl 3)]), (2, .arr 3 (.int .i64) r12.2.1), (3, .arr 24 (.int .i64) z)], 4⟩)]) (loopF (fun go x => f55_56_l4 a b r12 q7_3 q7_7 go x.1 x.2)) fuelN ((0 : Int), r12.2.2) z13 (And.intro hz13 (And.intro (Exists.intro [] (Exists.intro [] (Exists.intro [] (Exists.intro [] (Exists.intro [(0, some 0), (1, some 1), (2, some 2), (3, some 6), (4, some 7), (5, some 8), (6, some 4), (7, some 5)] (And.intro rfl (And.intro rfl (And.intro rfl (And.intro (And.intro rfl (And.intro rfl (And.intro rfl (And.intro rfl (And.intro rfl (And.intro rfl (And.intro rfl trivial))))))) (And.intro rfl (And.intro rfl (And.intro rfl (And.intro rfl (And.intro rfl (And.intro rfl (And.intro rfl (And.intro rfl trivial))))))))))))))))) (And.intro (fun _ _ h => loopZ h) (And.intro (fun m => curI (fun v52 => fun l7 z hF => ?_)) ?_))))
        · have hF : f55_56_l4 a b r12 q7_3 q7_7 (loopF (fun go x => f55_56_l4 a b r12 q7_3 q7_7 go x.1 x.2) m) v52 l7 = some z := hF
          unfold f55_56_l4 at hF
          refine Or.inl ?_
          refine Or.inl ?_
          refine condI hF (fun hF => ?_) (fun hF => ?_)
          · refine Or.inl ?_
            refine Or.inl ?_
            refine Exists.intro (.take 0 (.take 1 (.take 2 (.take 3 (.take 4 (.take 5 (.take 6 (.take 7 (.take 8 (.take 9 (.take 10 (.take 11 (.take 12 (.take 13 (.take 14 (.take 15 (.take 16 (.take 17 (.take 18 (.take 19 (.alt 20 (.take 21 (.alt 22 .done .done)) .done))))))))))))))))))))) (Exists.intro [] (Exists.intro [] (And.intro rfl ?_)))
            refine guardI hF (fun hF => ?_)
            refine guardI hF (fun hF => ?_)
            refine guardI hF (fun hF => ?_)
            refine guardI hF (fun hF => ?_)
            refine And.intro trivial ?_
            obtain ⟨q11_20, hq11_20, hF⟩ := bindE hF
            refine Or.inl (And.intro f56_in (callV0 (callI C56 ((rd (0 : Int) a.2 (rd (0 : Int) q7_3 v52)), (rd (0 : Int) b.2 (rd (0 : Int) q7_7 v52))) q11_20 [] false C56_holds hq11_20 rfl rfl ?_)))
            refine (And.intro rfl (And.intro rfl (And.intro (fun h => nomatch h) (And.intro rfl (And.intro rfl (And.intro trivial (And.intro trivial ?_)))))))
            refine guardI hF (fun hF => ?_)
            refine And.intro trivial ?_
            refine Or.inl ?_
            refine Exists.intro ((IntKind.i64.wrap (v52 + (1 : Int))), (List.set l7 (Int.toNat v52) q11_20)) (And.intro hF (Exists.intro [] (Exists.intro [] (Exists.intro [] (Exists.intro [] (Exists.intro [(0, some 0), (1, some 1), (2, some 2), (3, some 3), (4, some 4), (5, some 5), (6, some 6), (7, some 7)] (And.intro rfl (And.intro rfl (And.intro rfl (And.intro (And.intro rfl (And.intro rfl (And.intro rfl (And.intro rfl (And.intro rfl (And.intro rfl (And.intro rfl trivial))))))) (And.intro rfl (And.intro rfl (And.intro rfl (And.intro rfl (And.intro rfl (And.intro rfl (And.intro rfl (And.intro rfl trivial))))))))))))))))))
          · have hz := someE hF
            subst hz
            refine Exists.intro [] (Exists.intro [] (Exists.intro [] (Exists.intro [] (Exists.intro [(0, some 2), (1, some 3), (2, some 6), (3, some 7)] (And.intro rfl (And.intro (And.intro rfl (And.intro rfl trivial)) (And.intro rfl (And.intro rfl (And.intro rfl (And.intro rfl trivial))))))))))
        · refine And.intro ?_ trivial
          refine Or.inl ?_
          refine Or.inl ?_
          have hy := someE hF
          subst hy
          refine And.intro rfl (Exists.intro [] (Exists.intro [] (Exists.intro [] (Exists.intro [] (Exists.intro [(0, some 2), (1, some 3)] (And.intro rfl (And.intro rfl (And.intro (And.intro rfl trivial) (And.intro rfl (And.intro rfl trivial))))))))))
    · dsimp only [sumF] at hF
      refine And.intro ?_ trivial
      have hy := someE hF
      subst hy
      refine And.intro rfl (Exists.intro [] (Exists.intro [] (Exists.intro [] (Exists.intro [] (Exists.intro [(0, none), (1, none)] (And.intro rfl (And.intro rfl (And.intro (And.intro rfl trivial) (And.intro rfl (And.intro rfl trivial))))))))))
theorem C55_56_holds : C55_56.Holds Try.prog 55 := holds_of_vc tab_ok mixed (fn := Try.f55) (by kernel_rfl) rfl C55_56 (fun x y hF => C55_56_vc x.1 x.2 y hF)
theorem f55_56_in : ∃ fn, Try.prog.funcs[55]? = some fn ∧ fn.body.isSome = true ∧ (fn.name == "runtime.NumGoroutine") = false := ⟨Try.f55, by kernel_rfl, by kernel_rfl, by kernel_rfl⟩
end Go.Proofs
namespace Go.Proofs
open Go.AM
-- carousel/tens.Add
def f41 (a : (List Int) × (List Int)) (b : (List Int) × (List Int)) : Option (Int × (List Int) × (List Int)) :=
  bindF (f55_56 (a.1, a.2) (b.1, b.2)) fun r1 =>
  some (r1.1, r1.2.1, r1.2.2)
def C41 : Con where
  X := ((List Int) × (List Int)) × ((List Int) × (List Int))
  Y := Int × (List Int) × (List Int)
  e := 0
  args x := [.dat (.p (.sl (.int .i64)) (.sl (.int .i64))) x.1, .dat (.p (.sl (.int .i64)) (.sl (.int .i64))) x.2]
  hin x := []
  F x := f41 x.1 x.2
  ret y := [.raw true [(.osl 0), (.osl 1)], .dat (.int .i64) y.1]
  hout y := [(0, .arr 3 (.int .i64) y.2.1), (1, .arr 24 (.int .i64) y.2.2)]
  nout := 2
theorem C41_vc (a : (List Int) × (List Int)) (b : (List Int) × (List Int)) (y : Int × (List Int) × (List Int)) (hF : f41 a b = some y) : vc Try.prog tab Try.f41.ntmps 0 (match Try.f41.body with | some c => c | none => .skip) (retK tab C41 Try.f41.results.toList y) (C41.shIn (a, b)).st := by
  unfold f41 at hF
  refine Or.inl ?_
  refine Or.inl ?_
  obtain ⟨r1, hr1, hF⟩ := bindE hF
  refine Or.inl (And.intro f55_56_in (callV0 (callI C55_56 ((a.1, a.2), (b.1, b.2)) r1 [] false C55_56_holds hr1 rfl rfl ?_)))
  refine (And.intro rfl (And.intro rfl (And.intro rfl (And.intro rfl (And.intro (fun h => nomatch h) (And.intro rfl (And.intro rfl (And.intro (And.intro rfl trivial) (And.intro trivial ?_)))))))))
  refine Or.inl ?_
  have hy := someE hF
  subst hy
  refine And.intro rfl (Exists.intro [] (Exists.intro [] (Exists.intro [] (Exists.intro [] (Exists.intro [(0, some 3), (1, some 4)] (And.intro rfl (And.intro rfl (And.intro (And.intro rfl trivial) (And.intro rfl (And.intro rfl trivial))))))))))
theorem C41_holds : C41.Holds Try.prog 41 := holds_of_vc tab_ok mixed (fn := Try.f41) (by kernel_rfl) rfl C41 (fun x y hF => C41_vc x.1 x.2 y hF)
theorem f41_in : ∃ fn, Try.prog.funcs[41]? = some fn ∧ fn.body.isSome = true ∧ (fn.name == "runtime.NumGoroutine") = false := ⟨Try.f41, by kernel_rfl, by kernel_rfl, by kernel_rfl⟩
end Go.Proofs
namespace Go.Proofs
open Go.AM
-- carousel/fix.Sub
def f57_j1 (a : Int) (b : Int) : Option (Sum Unit Unit) :=
  bif ((decide (a < (0 : Int))) == (decide (b < (0 : Int)))) then
    some (Sum.inr ())
  else
    bif ((decide ((IntKind.i64.wrap (a - b)) < (0 : Int))) == (decide (a < (0 : Int)))) then
      some (Sum.inr ())
    else
      some (Sum.inl ())
def f57 (a : Int) (b : Int) : Option Int :=
  bindF (f57_j1 a b) fun z1 =>
  sumF z1 (fun z1a =>
    bif (decide (a < (0 : Int))) then
      some (-9223372036854775808 : Int)
    else
      some (9223372036854775807 : Int)) (fun z1b =>
    some (IntKind.i64.wrap (a - b)))
def C57 : Con where
  X := Int × Int
  Y := Int
  e := 0
  args x := [.dat (.int .i64) x.1, .dat (.int .i64) x.2]
  hin x := []
  F x := f57 x.1 x.2
  ret y := [.dat (.int .i64) y]
  hout y := []
  nout := 0
theorem C57_vc (a : Int) (b : Int) (y : Int) (hF : f57 a b = some y) : vc Try.prog tab Try.f57.ntmps 0 (match Try.f57.body with | some c => c | none => .skip) (retK tab C57 Try.f57.results.toList y) (C57.shIn (a, b)).st := by
  unfold f57 at hF
  refine Or.inl ?_
  refine Or.inl ?_
  obtain ⟨z1, hz1, hF⟩ := bindE hF
  refine Or.inr ⟨Sum.elim (fun z1a => [(0, ⟨[(0, .dat (.int .i64) a)], [], 0⟩)]) (fun z1b => [(1, ⟨[(4, .dat (.int .i64) (IntKind.i64.wrap (a - b)))], [], 0⟩)]) z1, ?_, ?_⟩
  · have hF := hz1
    clear hz1
    unfold f57_j1 at hF
    refine Or.inl ?_
    refine condN hF (fun hF => ?_) (fun hF => ?_)
    · refine gdYF ?_
      refine gdYF ?_
      refine gdYF ?_
      refine gdYF ?_
      refine condF ?_
      refine condI hF (fun hF => ?_) (fun hF => ?_)
      · refine Or.inl ?_
        have hz := someE hF
        subst hz
        refine Exists.intro [] (Exists.intro [] (Exists.intro [] (Exists.intro [] (Exists.intro [] (And.intro rfl (And.intro rfl (And.intro trivial trivial)))))))
      · have hz := someE hF
        subst hz
        refine Exists.intro [] (Exists.intro [] (Exists.intro [] (Exists.intro [] (Exists.intro [] (And.intro rfl (And.intro rfl (And.intro trivial trivial)))))))
    · refine gdNF ?_
      refine gdNF ?_
      refine gdNF ?_
      refine gdNF ?_
      refine condT ?_
      refine condT ?_
      refine Or.inl ?_
      have hz := someE hF
      subst hz
      refine Exists.intro [] (Exists.intro [] (Exists.intro [] (Exists.intro [] (Exists.intro [] (And.intro rfl (And.intro rfl (And.intro trivial trivial)))))))
  · rcases z1 with z1a | z1b
    · dsimp only [sumF] at hF
      refine And.intro ?_ trivial
      refine Or.inl ?_
      refine Or.inl ?_
      refine condI hF (fun hF => ?_) (fun hF => ?_)
      · refine Or.inl ?_
        have hy := someE hF
        subst hy
        refine And.intro rfl (Exists.intro [] (Exists.intro [] (Exists.intro [] (Exists.intro [] (Exists.intro [] (And.intro rfl (And.intro rfl (And.intro trivial trivial))))))))
      · refine Or.inl ?_
        have hy := someE hF
        subst hy
        refine And.intro rfl (Exists.intro [] (Exists.intro [] (Exists.intro [] (Exists.intro [] (Exists.intro [] (And.intro rfl (And.intro rfl (And.intro trivial trivial))))))))
    · dsimp only [sumF] at hF
      refine And.intro ?_ trivial
      have hy := someE hF
      subst hy
      refine And.intro rfl (Exists.intro [] (Exists.intro [] (Exists.intro [] (Exists.intro [] (Exists.intro [] (And.intro rfl (And.intro rfl (And.intro trivial trivial))))))))
theorem C57_holds : C57.Holds Try.prog 57 := holds_of_vc tab_ok mixed (fn := Try.f57) (by kernel_rfl) rfl C57 (fun x y hF => C57_vc x.1 x.2 y hF)
theorem f57_in : ∃ fn, Try.prog.funcs[57]? = some fn ∧ fn.body.isSome = true ∧ (fn.name == "runtime.NumGoroutine") = false := ⟨Try.f57, by kernel_rfl, by kernel_rfl, by kernel_rfl⟩
end Go.Proofs
namespace Go.Proofs
open Go.AM
-- carousel/tens.both
def f55_57_j3 (a : (List Int) × (List Int)) (b : (List Int) × (List Int)) : Option Bool :=
  bindF (f14 (a.1, a.2)) fun r9 =>
  bif (!r9) then
    some true
  else
    bindF (f14 (b.1, b.2)) fun r10 =>
    some (!r10)
def f55_57_j2 (a : (List Int) × (List Int)) (b : (List Int) × (List Int)) : Option (Sum Unit Unit) :=
  bindF (f55_57_j3 a b) fun z8 =>
  bif z8 then
    some (Sum.inr ())
  else
    some (Sum.inl ())
def f55_57_l4 (a : (List Int) × (List Int)) (b : (List Int) × (List Int)) (r12 : Int × (List Int) × (List Int)) (q7_3 : List Int) (q7_7 : List Int) (go : (Int × (List Int)) → Option (List Int)) (v52 : Int) (l7 : List Int) : Option (List Int) :=
  bif (decide (v52 < (List.length r12.2.2 : Int))) then
    guardF (0 ≤ v52 ∧ v52 < (List.length q7_3 : Int)) <|
    guardF (0 ≤ (rd (0 : Int) q7_3 v52) ∧ (rd (0 : Int) q7_3 v52) < (List.length a.2 : Int)) <|
    guardF (0 ≤ v52 ∧ v52 < (List.length q7_7 : Int)) <|
    guardF (0 ≤ (rd (0 : Int) q7_7 v52) ∧ (rd (0 : Int) q7_7 v52) < (List.length b.2 : Int)) <|
    bindF (f57 (rd (0 : Int) a.2 (rd (0 : Int) q7_3 v52)) (rd (0 : Int) b.2 (rd (0 : Int) q7_7 v52))) fun q11_20 =>
    guardF (0 ≤ v52 ∧ v52 < (List.length l7 : Int)) <|
    go ((IntKind.i64.wrap (v52 + (1 : Int))), (List.set l7 (Int.toNat v52) q11_20))
  else
    some l7
def f55_57 (a : (List Int) × (List Int)) (b : (List Int) × (List Int)) : Option (Int × (List Int) × (List Int)) :=
  bindF (f55_57_j2 a b) fun z5 =>
  sumF z5 (fun z5a =>
    bindF (f75 a.1 b.1) fun r11 =>
    bif (r11.1 != (0 : Int)) then
      some (r11.1, [], [])
    else
      bindF (f23 r11.2 (0 : Int)) fun r12 =>
      bindF (f76 a.1 r11.2) fun q7_3 =>
      bindF (f76 b.1 r11.2) fun q7_7 =>
      bindF (loopF (fun go x => f55_57_l4 a b r12 q7_3 q7_7 go x.1 x.2) fuelN ((0 : Int), r12.2.2)) fun z13 =>
      some ((0 : Int), r12.2.1, z13)) (fun z5b =>
    some ((1 : Int), [], []))
def C55_57 : Con where
  X := ((List Int) × (List Int)) × ((List Int) × (List Int))
  Y := Int × (List Int) × (List Int)
  e := 0
  args x := [.dat (.p (.sl (.int .i64)) (.sl (.int .i64))) x.1, .dat (.p (.sl (.int .i64)) (.sl (.int .i64))) x.2, .raw false [(.c (.func (.func 57) #[] #[]))]]
  hin x := []
  F x := f55_57 x.1 x.2
  ret y := [.raw true [(.osl 0), (.osl 1)], .dat (.int .i64) y.1]
  hout y := [(0, .arr 3 (.int .i64) y.2.1), (1, .arr 24 (.int .i64) y.2.2)]
  nout := 2
theorem C55_57_vc (a : (List Int) × (List Int)) (b : (List Int) × (List Int)) (y : Int × (List Int) × (List Int)) (hF : f55_57 a b = some y) : vc Try.prog tab Try.f55.ntmps 0 (match Try.f55.body with | some c => c | none => .skip) (retK tab C55_57 Try.f55.results.toList y) (C55_57.shIn (a, b)).st := by
  unfold f55_57 at hF
  refine Or.inl ?_
  obtain ⟨z5, hz5, hF⟩ := bindE hF
  refine Or.inr ⟨Sum.elim (fun z5a => [(0, ⟨[(2, .raw false [(.c (.func (.func 57) #[] #[]))]), (3, .raw false [(.ptr 0 0)]), (4, .raw false [(.ptr 1 0)]), (6, .raw false [(.ptr 2 0)])], [(0, .cells [(.d (.sl (.int .i64)) a.1), (.d (.sl (.int .i64)) a.2)]), (1, .cells [(.d (.sl (.int .i64)) b.1), (.d (.sl (.int .i64)) b.2)]), (2, .cells [(.c (.slice none 0 0)), (.c (.slice none 0 0))])], 3⟩)]) (fun z5b => [(1, ⟨[(6, .raw false [(.ptr 0 0)]), (7, .dat (.int .i64) (1 : Int))], [(0, .cells [(.c (.slice none 0 0)), (.c (.slice none 0 0))])], 1⟩)]) z5, ?_, ?_⟩
  · have hF := hz5
    clear hz5
    unfold f55_57_j2 at hF
    obtain ⟨z8, hz8, hF⟩ := bindE hF
    refine Or.inr ⟨[(0, ⟨[(2, .raw false [(.c (.func (.func 57) #[] #[]))]), (3, .raw false [(.ptr 0 0)]), (4, .raw false [(.ptr 1 0)]), (6, .raw false [(.ptr 2 0)]), (22, .dat .bool z8)], [(0, .cells [(.d (.sl (.int .i64)) a.1), (.d (.sl (.int .i64)) a.2)]), (1, .cells [(.d (.sl (.int .i64)) b.1), (.d (.sl (.int .i64)) b.2)]), (2, .cells [(.c (.slice none 0 0)), (.c (.slice none 0 0))])], 3⟩)], ?_, ?_⟩
    · have hF := hz8
      clear hz8
      unfold f55_57_j3 at hF
      obtain ⟨r9, hr9, hF⟩ := bindE hF
      refine Or.inl (And.intro f14_in (callV0 (callI C14 (a.1, a.2) r9 [] false C14_holds hr9 rfl rfl ?_)))
      refine (And.intro rfl (And.intro rfl (And.intro (fun h => nomatch h) (And.intro rfl (And.intro rfl (And.intro trivial (And.intro trivial ?_)))))))
      refine condN hF (fun hF => ?_) (fun hF => ?_)
      · refine gdYF ?_
        obtain ⟨r10, hr10, hF⟩ := bindE hF
        refine Or.inl (And.intro f14_in (callV0 (callI C14 (b.1, b.2) r10 [] false C14_holds hr10 rfl rfl ?_)))
        refine (And.intro rfl (And.intro rfl (And.intro (fun h => nomatch h) (And.intro rfl (And.intro rfl (And.intro trivial (And.intro trivial ?_)))))))
        refine gdYF ?_
        refine condF ?_
        have hz := someE hF
        subst hz
        refine Exists.intro [] (Exists.intro [] (Exists.intro [] (Exists.intro [] (Exists.intro [(0, some 0), (1, some 1), (2, some 2)] (And.intro rfl (And.intro rfl (And.intro (And.intro rfl (And.intro rfl (And.intro rfl (And.intro rfl trivial)))) (And.intro rfl (And.intro rfl (And.intro rfl trivial))))))))))
      · refine gdNF ?_
        refine gdNF ?_
        refine condT ?_
        have hz := someE hF
        subst hz
        refine Exists.intro [] (Exists.intro [] (Exists.intro [] (Exists.intro [] (Exists.intro [(0, some 0), (1, some 1), (2, some 2)] (And.intro rfl (And.intro rfl (And.intro (And.intro rfl (And.intro rfl (And.intro rfl (And.intro rfl trivial)))) (And.intro rfl (And.intro rfl (And.intro rfl trivial))))))))))
    · refine And.intro ?_ trivial
      refine condI hF (fun hF => ?_) (fun hF => ?_)
      · refine Or.inl ?_
        refine Or.inl ?_
        have hz := someE hF
        subst hz
        refine Exists.intro [] (Exists.intro [] (Exists.intro [] (Exists.intro [] (Exists.intro [(0, some 2)] (And.intro rfl (And.intro rfl (And.intro (And.intro rfl trivial) (And.intro rfl trivial))))))))
      · have hz := someE hF
        subst hz
        refine Exists.intro [] (Exists.intro [] (Exists.intro [] (Exists.intro [] (Exists.intro [(0, some 0), (1, some 1), (2, some 2)] (And.intro rfl (And.intro (And.intro rfl (And.intro rfl (And.intro rfl (And.intro rfl trivial)))) (And.intro rfl (And.intro rfl (And.intro rfl trivial)))))))))
  · rcases z5 with z5a | z5b
    · dsimp only [sumF] at hF
      refine And.intro ?_ trivial
      refine Or.inl ?_
      obtain ⟨r11, hr11, hF⟩ := bindE hF
      refine Or.inl (And.intro f75_in (callV0 (callI C75 (a.1, b.1) r11 [] false C75_holds hr11 rfl rfl ?_)))
      refine (And.intro rfl (And.intro rfl (And.intro (fun h => nomatch h) (And.intro rfl (And.intro rfl (And.intro trivial (And.intro trivial ?_)))))))
      refine Or.inl ?_
      refine Or.inl ?_
      refine condI hF (fun hF => ?_) (fun hF => ?_)
      · refine Or.inl ?_
        refine Or.inl ?_
        have hy := someE hF
        subst hy
        refine And.intro rfl (Exists.intro [] (Exists.intro [] (Exists.intro [] (Exists.intro [] (Exists.intro [(0, none), (1, none)] (And.intro rfl (And.intro rfl (And.intro (And.intro rfl trivial) (And.intro rfl (And.intro rfl trivial))))))))))
      · refine Or.inl ?_
        obtain ⟨r12, hr12, hF⟩ := bindE hF
        refine Or.inl (And.intro f23_in (callV0 (callI C23 (r11.2, (0 : Int)) r12 [] true C23_holds hr12 rfl rfl ?_)))
        refine (And.intro rfl (And.intro rfl (And.intro (fun _ => rfl) (And.intro rfl (And.intro rfl (And.intro trivial (And.intro trivial ?_)))))))
        refine Or.inl ?_
        refine Or.inl ?_
        refine Exists.intro (.take 0 (.take 1 (.take 2 (.take 4 (.take 5 (.take 6 (.alt 3 (.alt 7 (.take 8 (.take 9 .done)) .done) .done))))))) (Exists.intro [] (Exists.intro [] (And.intro rfl ?_)))
        refine And.intro trivial ?_
        obtain ⟨q7_3, hq7_3, hF⟩ := bindE hF
        refine Or.inl (And.intro f76_in (callV0 (callI C76 (a.1, r11.2) q7_3 [] true C76_holds hq7_3 rfl rfl ?_)))
        refine (And.intro rfl (And.intro rfl (And.intro (fun _ => rfl) (And.intro rfl (And.intro rfl (And.intro trivial (And.intro trivial ?_)))))))
        refine And.intro trivial ?_
        obtain ⟨q7_7, hq7_7, hF⟩ := bindE hF
        refine Or.inl (And.intro f76_in (callV0 (callI C76 (b.1, r11.2) q7_7 [] true C76_holds hq7_7 rfl rfl ?_)))
        refine (And.intro rfl (And.intro rfl (And.intro (fun _ => rfl) (And.intro rfl (And.intro rfl (And.intro trivial (And.intro trivial ?_)))))))
        refine Or.inl ?_
        refine Or.inl ?_
        obtain ⟨z13, hz13, hF⟩ := bindE hF
        refine loopI (Int × (List Int)) (List Int) (fun x => ⟨[(2, .raw false [(.c (.func (.func 57) #[] #[]))]), (3, .raw false [(.ptr 0 0)]), (4, .raw false [(.ptr 1 0)]), (6, .raw false [(.ptr 2 0)]), (10, .raw false [(.ptr 3 0)]), (12, .raw false [(.osl 4)]), (13, .raw false [(.osl 5)]), (51, .dat (.int .i64) (List.length r12.2.2 : Int)), (52, .dat (.int .i64) x.1)], [(0, .cells [(.d (.sl (.int .i64)) a.1), (.d (.sl (.int .i64)) a.2)]), (1, .cells [(.d (.sl (.int .i64)) b.1), (.d (.sl (.int .i64)) b.2)]), (2, .cells [(.c (.slice none 0 0)), (.c (.slice none 0 0))]), (3, .cells [(.osl 6), (.osl 7)]), (4, .arr 3 (.int .i64) q7_3), (5, .arr 3 (.int .i64) q7_7), (6, .arr 3 (.int .i64) r12.2.1), (7, .arr 24 (.int .i64) x.2)], 8⟩) (fun z => [(2, ⟨[(6, .raw false [(.ptr 0 0)]), (10, .raw false [(.ptr 1 0)])], [(0, .cells [(.c (.slice none 0 0)), (.c (.slice none 0 0))]), (1, .cells [(.osl 2), (.osl 3)]), (2, .arr 3 (.int .i64) r12.2.1), (3, .arr 24 (.int .i64) z)], 4⟩)]) (loopF (fun go x => f55_57_l4 a b r12 q7_3 q7_7 go x.1 x.2)) fuelN ((0 : Int), r12.2.2) z13 (And.intro hz13 (And.intro (Exists.intro [] (Exists.intro [] (Exists.intro [] (Exists.intro [] (Exists.intro [(0, some 0), (1, some 1), (2, some 2), (3, some 6), (4, some 7), (5, some 8), (6, some 4), (7, some 5)] (And.intro rfl (And.intro rfl (And.intro rfl (And.intro (And.intro rfl (And.intro rfl (And.intro rfl (And.intro rfl (And.intro rfl (And.intro rfl (And.intro rfl trivial))))))) (And.intro rfl (And.intro rfl (And.intro rfl (And.intro rfl (And.intro rfl (And.intro rfl (And.intro rfl (And.intro rfl trivial))))))))))))))))) (And.intro (fun _ _ h => loopZ h) (And.intro (fun m => curI (fun v52 => fun l7 z hF => ?_)) ?_))))
        · have hF : f55_57_l4 a b r12 q7_3 q7_7 (loopF (fun go x => f55_57_l4 a b r12 q7_3 q7_7 go x.1 x.2) m) v52 l7 = some z := hF
          unfold f55_57_l4 at hF
          refine Or.inl ?_
          refine Or.inl ?_
          refine condI hF (fun hF => ?_) (fun hF => ?_)
          · refine Or.inl ?_
            refine Or.inl ?_
            refine Exists.intro (.take 0 (.take 1 (.take 2 (.take 3 (.take 4 (.take 5 (.take 6 (.take 7 (.take 8 (.take 9 (.take 10 (.take 11 (.take 12 (.take 13 (.take 14 (.take 15 (.take 16 (.take 17 (.take 18 (.take 19 (.alt 20 (.take 21 (.alt 22 .done .done)) .done))))))))))))))))))))) (Exists.intro [] (Exists.intro [] (And.intro rfl ?_)))
            refine guardI hF (fun hF => ?_)
            refine guardI hF (fun hF => ?_)
            refine guardI hF (fun hF => ?_)
            refine guardI hF (fun hF => ?_)
            refine And.intro trivial ?_
            obtain ⟨q11_20, hq11_20, hF⟩ := bindE hF
            refine Or.inl (And.intro f57_in (callV0 (callI C57 ((rd (0 : Int) a.2 (rd (0 : Int) q7_3 v52)), (rd (0 : Int) b.2 (rd (0 : Int) q7_7 v52))) q11_20 [] false C57_holds hq11_20 rfl rfl ?_)))
            refine (And.intro rfl (And.intro rfl (And.intro (fun h => nomatch h) (And.intro rfl (And.intro rfl (And.intro trivial (And.intro trivial ?_)))))))
            refine guardI hF (fun hF => ?_)
            refine And.intro trivial ?_
            refine Or.inl ?_
            refine Exists.intro ((IntKind.i64.wrap (v52 + (1 : Int))), (List.set l7 (Int.toNat v52) q11_20)) (And.intro hF (Exists.intro [] (Exists.intro [] (Exists.intro [] (Exists.intro [] (Exists.intro [(0, some 0), (1, some 1), (2, some 2), (3, some 3), (4, some 4), (5, some 5), (6, some 6), (7, some 7)] (And.intro rfl (And.intro rfl (And.intro rfl (And.intro (And.intro rfl (And.intro rfl (And.intro rfl (And.intro rfl (And.intro rfl (And.intro rfl (And.intro rfl trivial))))))) (And.intro rfl (And.intro rfl (And.intro rfl (And.intro rfl (And.intro rfl (And.intro rfl (And.intro rfl (And.intro rfl trivial))))))))))))))))))
          · have hz := someE hF
            subst hz
            refine Exists.intro [] (Exists.intro [] (Exists.intro [] (Exists.intro [] (Exists.intro [(0, some 2), (1, some 3), (2, some 6), (3, some 7)] (And.intro rfl (And.intro (And.intro rfl (And.intro rfl trivial)) (And.intro rfl (And.intro rfl (And.intro rfl (And.intro rfl trivial))))))))))
        · refine And.intro ?_ trivial
          refine Or.inl ?_
          refine Or.inl ?_
          have hy := someE hF
          subst hy
          refine And.intro rfl (Exists.intro [] (Exists.intro [] (Exists.intro [] (Exists.intro [] (Exists.intro [(0, some 2), (1, some 3)] (And.intro rfl (And.intro rfl (And.intro (And.intro rfl trivial) (And.intro rfl (And.intro rfl trivial))))))))))
    · dsimp only [sumF] at hF
      refine And.intro ?_ trivial
      have hy := someE hF
      subst hy
      refine And.intro rfl (Exists.intro [] (Exists.intro [] (Exists.intro [] (Exists.intro [] (Exists.intro [(0, none), (1, none)] (And.intro rfl (And.intro rfl (And.intro (And.intro rfl trivial) (And.intro rfl (And.intro rfl trivial))))))))))
theorem C55_57_holds : C55_57.Holds Try.prog 55 := holds_of_vc tab_ok mixed (fn := Try.f55) (by kernel_rfl) rfl C55_57 (fun x y hF => C55_57_vc x.1 x.2 y hF)
theorem f55_57_in : ∃ fn, Try.prog.funcs[55]? = some fn ∧ fn.body.isSome = true ∧ (fn.name == "runtime.NumGoroutine") = false := ⟨Try.f55, by kernel_rfl, by kernel_rfl, by kernel_rfl⟩
end Go.Proofs
namespace Go.Proofs
open Go.AM
-- carousel/tens.Sub
def f42 (a : (List Int) × (List Int)) (b : (List Int) × (List Int)) : Option (Int × (List Int) × (List Int)) :=
  bindF (f55_57 (a.1, a.2) (b.1, b.2)) fun r1 =>
  some (r1.1, r1.2.1, r1.2.2)
def C42 : Con where
  X := ((List Int) × (List Int)) × ((List Int) × (List Int))
  Y := Int × (List Int) × (List Int)
  e := 0
  args x := [.dat (.p (.sl (.int .i64)) (.sl (.int .i64))) x.1, .dat (.p (.sl (.int .i64)) (.sl (.int .i64))) x.2]
  hin x := []
  F x := f42 x.1 x.2
  ret y := [.raw true [(.osl 0), (.osl 1)], .dat (.int .i64) y.1]
  hout y := [(0, .arr 3 (.int .i64) y.2.1), (1, .arr 24 (.int .i64) y.2.2)]
  nout := 2
theorem C42_vc (a : (List Int) × (List Int)) (b : (List Int) × (List Int)) (y : Int × (List Int) × (List Int)) (hF : f42 a b = some y) : vc Try.prog tab Try.f42.ntmps 0 (match Try.f42.body with | some c => c | none => .skip) (retK tab C42 Try.f42.results.toList y) (C42.shIn (a, b)).st := by
  unfold f42 at hF
  refine Or.inl ?_
  refine Or.inl ?_
  obtain ⟨r1, hr1, hF⟩ := bindE hF
  refine Or.inl (And.intro f55_57_in (callV0 (callI C55_57 ((a.1, a.2), (b.1, b.2)) r1 [] false C55_57_holds hr1 rfl rfl ?_)))
  refine (And.intro rfl (And.intro rfl (And.intro rfl (And.intro rfl (And.intro (fun h => nomatch h) (And.intro rfl (And.intro rfl (And.intro (And.intro rfl trivial) (And.intro trivial ?_)))))))))
  refine Or.inl ?_
  have hy := someE hF
  subst hy
  refine And.intro rfl (Exists.intro [] (Exists.intro [] (Exists.intro [] (Exists.intro [] (Exists.intro [(0, some 3), (1, some 4)] (And.intro rfl (And.intro rfl (And.intro (And.intro rfl trivial) (And.intro rfl (And.intro rfl trivial))))))))))
theorem C42_holds : C42.Holds Try.prog 42 := holds_of_vc tab_ok mixed (fn := Try.f42) (by kernel_rfl) rfl C42 (fun x y hF => C42_vc x.1 x.2 y hF)
theorem f42_in : ∃ fn, Try.prog.funcs[42]? = some fn ∧ fn.body.isSome = true ∧ (fn.name == "runtime.NumGoroutine") = false := ⟨Try.f42, by kernel_rfl, by kernel_rfl, by kernel_rfl⟩
end Go.Proofs
namespace Go.Proofs
open Go.AM
-- carousel/fix.size
def f77 (v : Int) : Option Int :=
  bif (decide (v < (0 : Int))) then
    some (IntKind.u64.wrap (0 - (IntKind.u64.wrap v)))
  else
    some (IntKind.u64.wrap v)
def C77 : Con where
  X := Int
  Y := Int
  e := 0
  args x := [.dat (.int .i64) x]
  hin x := []
  F x := f77 x
  ret y := [.dat (.int .u64) y]
  hout y := []
  nout := 0
theorem C77_vc (v : Int) (y : Int) (hF : f77 v = some y) : vc Try.prog tab Try.f77.ntmps 0 (match Try.f77.body with | some c => c | none => .skip) (retK tab C77 Try.f77.results.toList y) (C77.shIn v).st := by
  unfold f77 at hF
  refine Or.inl ?_
  refine Or.inl ?_
  refine Or.inl ?_
  refine condI hF (fun hF => ?_) (fun hF => ?_)
  · refine Or.inl ?_
    have hy := someE hF
    subst hy
    refine And.intro rfl (Exists.intro [] (Exists.intro [] (Exists.intro [] (Exists.intro [] (Exists.intro [] (And.intro rfl (And.intro rfl (And.intro trivial trivial))))))))
  · refine Or.inl ?_
    have hy := someE hF
    subst hy
    refine And.intro rfl (Exists.intro [] (Exists.intro [] (Exists.intro [] (Exists.intro [] (Exists.intro [] (And.intro rfl (And.intro rfl (And.intro trivial trivial))))))))
theorem C77_holds : C77.Holds Try.prog 77 := holds_of_vc tab_ok mixed (fn := Try.f77) (by kernel_rfl) rfl C77 (fun x y hF => C77_vc x y hF)
theorem f77_in : ∃ fn, Try.prog.funcs[77]? = some fn ∧ fn.body.isSome = true ∧ (fn.name == "runtime.NumGoroutine") = false := ⟨Try.f77, by kernel_rfl, by kernel_rfl, by kernel_rfl⟩
end Go.Proofs
namespace Go.Proofs
open Go.AM
-- carousel/fix.held
def f79_j1 (hi : Int) (lo : Int) (below : Bool) : Option Bool :=
  bif below then
    bif (decide (hi > (0 : Int))) then
      some true
    else
      some (decide (lo ≥ (9223372036854775808 : Int)))
  else
    some false
def f79 (hi : Int) (lo : Int) (below : Bool) : Option Int :=
  bindF (f79_j1 hi lo below) fun z1 =>
  bif z1 then
    some (-9223372036854775808 : Int)
  else
    bif below then
      some (IntKind.i64.wrap (0 - (IntKind.i64.wrap lo)))
    else
      bif (decide (hi > (0 : Int))) then
        some (9223372036854775807 : Int)
      else
        bif (decide (lo ≥ (9223372036854775808 : Int))) then
          some (9223372036854775807 : Int)
        else
          some (IntKind.i64.wrap lo)
def C79 : Con where
  X := Int × Int × Bool
  Y := Int
  e := 0
  args x := [.dat (.int .u64) x.1, .dat (.int .u64) x.2.1, .dat .bool x.2.2]
  hin x := []
  F x := f79 x.1 x.2.1 x.2.2
  ret y := [.dat (.int .i64) y]
  hout y := []
  nout := 0
theorem C79_vc (hi : Int) (lo : Int) (below : Bool) (y : Int) (hF : f79 hi lo below = some y) : vc Try.prog tab Try.f79.ntmps 0 (match Try.f79.body with | some c => c | none => .skip) (retK tab C79 Try.f79.results.toList y) (C79.shIn (hi, lo, below)).st := by
  unfold f79 at hF
  refine Or.inl ?_
  refine Or.inl ?_
  obtain ⟨z1, hz1, hF⟩ := bindE hF
  refine Or.inr ⟨[(0, ⟨[(0, .dat (.int .u64) hi), (1, .dat (.int .u64) lo), (2, .dat .bool below), (7, .dat .bool z1)], [], 0⟩)], ?_, ?_⟩
  · have hF := hz1
    clear hz1
    unfold f79_j1 at hF
    refine condI hF (fun hF => ?_) (fun hF => ?_)
    · refine gdYT ?_
      refine gdYT ?_
      refine condN hF (fun hF => ?_) (fun hF => ?_)
      · refine gdYF ?_
        refine gdYT ?_
        refine condF ?_
        refine condT ?_
        have hz := someE hF
        subst hz
        refine Exists.intro [] (Exists.intro [] (Exists.intro [] (Exists.intro [] (Exists.intro [] (And.intro rfl (And.intro rfl (And.intro rfl (And.intro rfl (And.intro rfl (And.intro trivial trivial))))))))))
      · refine gdNF ?_
        refine gdYT ?_
        refine condT ?_
        refine condT ?_
        have hz := someE hF
        subst hz
        refine Exists.intro [] (Exists.intro [] (Exists.intro [] (Exists.intro [] (Exists.intro [] (And.intro rfl (And.intro rfl (And.intro rfl (And.intro rfl (And.intro rfl (And.intro trivial trivial))))))))))
    · refine gdNT ?_
      refine gdNT ?_
      refine gdNT ?_
      refine condF ?_
      have hz := someE hF
      subst hz
      refine Exists.intro [] (Exists.intro [] (Exists.intro [] (Exists.intro [] (Exists.intro [] (And.intro rfl (And.intro rfl (And.intro rfl (And.intro rfl (And.intro rfl (And.intro trivial trivial))))))))))
  · refine And.intro ?_ trivial
    refine condI hF (fun hF => ?_) (fun hF => ?_)
    · refine Or.inl ?_
      have hy := someE hF
      subst hy
      refine And.intro rfl (Exists.intro [] (Exists.intro [] (Exists.intro [] (Exists.intro [] (Exists.intro [] (And.intro rfl (And.intro rfl (And.intro trivial trivial))))))))
    · refine Or.inl ?_
      refine condI hF (fun hF => ?_) (fun hF => ?_)
      · refine Or.inl ?_
        have hy := someE hF
        subst hy
        refine And.intro rfl (Exists.intro [] (Exists.intro [] (Exists.intro [] (Exists.intro [] (Exists.intro [] (And.intro rfl (And.intro rfl (And.intro trivial trivial))))))))
      · refine Or.inl ?_
        refine condN hF (fun hF => ?_) (fun hF => ?_)
        · refine gdYF ?_
          refine condF ?_
          refine condI hF (fun hF => ?_) (fun hF => ?_)
          · refine Or.inl ?_
            have hy := someE hF
            subst hy
            refine And.intro rfl (Exists.intro [] (Exists.intro [] (Exists.intro [] (Exists.intro [] (Exists.intro [] (And.intro rfl (And.intro rfl (And.intro trivial trivial))))))))
          · refine Or.inl ?_
            have hy := someE hF
            subst hy
            refine And.intro rfl (Exists.intro [] (Exists.intro [] (Exists.intro [] (Exists.intro [] (Exists.intro [] (And.intro rfl (And.intro rfl (And.intro trivial trivial))))))))
        · refine gdNF ?_
          refine condT ?_
          refine condT ?_
          refine Or.inl ?_
          have hy := someE hF
          subst hy
          refine And.intro rfl (Exists.intro [] (Exists.intro [] (Exists.intro [] (Exists.intro [] (Exists.intro [] (And.intro rfl (And.intro rfl (And.intro trivial trivial))))))))
theorem C79_holds : C79.Holds Try.prog 79 := holds_of_vc tab_ok mixed (fn := Try.f79) (by kernel_rfl) rfl C79 (fun x y hF => C79_vc x.1 x.2.1 x.2.2 y hF)
theorem f79_in : ∃ fn, Try.prog.funcs[79]? = some fn ∧ fn.body.isSome = true ∧ (fn.name == "runtime.NumGoroutine") = false := ⟨Try.f79, by kernel_rfl, by kernel_rfl, by kernel_rfl⟩
end Go.Proofs
namespace Go.Proofs
open Go.AM
-- carousel/fix.Mul
def f58_j3 (r3 : Int × Int) : Option Bool :=
  bif (decide ((bitsOf IntKind.u64 (fun p q => p &&& q) r3.2 (4294967295 : Int)) > (2147483648 : Int))) then
    some true
  else
    bif ((bitsOf IntKind.u64 (fun p q => p &&& q) r3.2 (4294967295 : Int)) == (2147483648 : Int)) then
      some ((bitsOf IntKind.u64 (fun p q => p &&& q) (bitsOf IntKind.u64 (fun p q => p ||| q) (IntKind.u64.wrap (r3.1 * 2 ^ min (Int.toNat (32 : Int)) (IntKind.bits IntKind.u64))) (Int.fdiv r3.2 (2 ^ min (Int.toNat (32 : Int)) (IntKind.bits IntKind.u64)))) (1 : Int)) == (1 : Int))
    else
      some false
def f58_j2 (r3 : Int × Int) : Option (Int × Int) :=
  bindF (f58_j3 r3) fun z7 =>
  bif z7 then
    bindF (add64 (bitsOf IntKind.u64 (fun p q => p ||| q) (IntKind.u64.wrap (r3.1 * 2 ^ min (Int.toNat (32 : Int)) (IntKind.bits IntKind.u64))) (Int.fdiv r3.2 (2 ^ min (Int.toNat (32 : Int)) (IntKind.bits IntKind.u64)))) (1 : Int) (0 : Int)) fun r8 =>
    some (r8.1, (IntKind.u64.wrap ((Int.fdiv r3.1 (2 ^ min (Int.toNat (32 : Int)) (IntKind.bits IntKind.u64))) + r8.2)))
  else
    some ((bitsOf IntKind.u64 (fun p q => p ||| q) (IntKind.u64.wrap (r3.1 * 2 ^ min (Int.toNat (32 : Int)) (IntKind.bits IntKind.u64))) (Int.fdiv r3.2 (2 ^ min (Int.toNat (32 : Int)) (IntKind.bits IntKind.u64)))), (Int.fdiv r3.1 (2 ^ min (Int.toNat (32 : Int)) (IntKind.bits IntKind.u64))))
def f58 (a : Int) (b : Int) : Option Int :=
  bindF (f77 a) fun r1 =>
  bindF (f77 b) fun r2 =>
  bindF (f40 r1 r2) fun r3 =>
  bindF (f58_j2 r3) fun z6 =>
  bindF (f79 z6.2 z6.1 (!((decide (a < (0 : Int))) == (decide (b < (0 : Int)))))) fun r9 =>
  some r9
def C58 : Con where
  X := Int × Int
  Y := Int
  e := 0
  args x := [.dat (.int .i64) x.1, .dat (.int .i64) x.2]
  hin x := []
  F x := f58 x.1 x.2
  ret y := [.dat (.int .i64) y]
  hout y := []
  nout := 0
theorem C58_vc (a : Int) (b : Int) (y : Int) (hF : f58 a b = some y) : vc Try.prog tab Try.f58.ntmps 0 (match Try.f58.body with | some c => c | none => .skip) (retK tab C58 Try.f58.results.toList y) (C58.shIn (a, b)).st := by
  unfold f58 at hF
  refine Or.inl ?_
  refine Or.inl ?_
  obtain ⟨r1, hr1, hF⟩ := bindE hF
  refine Or.inl (And.intro f77_in (callV0 (callI C77 a r1 [] false C77_holds hr1 rfl rfl ?_)))
  refine (And.intro rfl (And.intro (fun h => nomatch h) (And.intro rfl (And.intro rfl (And.intro trivial (And.intro trivial ?_))))))
  obtain ⟨r2, hr2, hF⟩ := bindE hF
  refine Or.inl (And.intro f77_in (callV0 (callI C77 b r2 [] false C77_holds hr2 rfl rfl ?_)))
  refine (And.intro rfl (And.intro (fun h => nomatch h) (And.intro rfl (And.intro rfl (And.intro trivial (And.intro trivial ?_))))))
  obtain ⟨r3, hr3, hF⟩ := bindE hF
  refine Or.inl (And.intro f40_in (callV0 (callI C40 (r1, r2) r3 [] false C40_holds hr3 rfl rfl ?_)))
  refine (And.intro rfl (And.intro rfl (And.intro (fun h => nomatch h) (And.intro rfl (And.intro rfl (And.intro trivial (And.intro trivial ?_)))))))
  refine Or.inl ?_
  refine Or.inl ?_
  refine And.intro (by decide) ?_
  refine And.intro (by decide) ?_
  refine Or.inl ?_
  refine And.intro (by decide) ?_
  obtain ⟨z6, hz6, hF⟩ := bindE hF
  refine Or.inr ⟨[(0, ⟨[(0, .dat (.int .i64) a), (1, .dat (.int .i64) b), (8, .dat (.int .u64) z6.1), (9, .dat (.int .u64) z6.2)], [], 0⟩)], ?_, ?_⟩
  · have hF := hz6
    clear hz6
    unfold f58_j2 at hF
    obtain ⟨z7, hz7, hF⟩ := bindE hF
    refine Or.inr ⟨[(0, ⟨[(0, .dat (.int .i64) a), (1, .dat (.int .i64) b), (8, .dat (.int .u64) (bitsOf IntKind.u64 (fun p q => p ||| q) (IntKind.u64.wrap (r3.1 * 2 ^ min (Int.toNat (32 : Int)) (IntKind.bits IntKind.u64))) (Int.fdiv r3.2 (2 ^ min (Int.toNat (32 : Int)) (IntKind.bits IntKind.u64))))), (9, .dat (.int .u64) (Int.fdiv r3.1 (2 ^ min (Int.toNat (32 : Int)) (IntKind.bits IntKind.u64)))), (38, .dat .bool z7)], [], 0⟩)], ?_, ?_⟩
    · have hF := hz7
      clear hz7
      unfold f58_j3 at hF
      refine condN hF (fun hF => ?_) (fun hF => ?_)
      · refine gdYF ?_
        refine gdYF ?_
        refine condI hF (fun hF => ?_) (fun hF => ?_)
        · refine gdYT ?_
          refine gdYT ?_
          refine gdYF ?_
          refine condT ?_
          refine condF ?_
          have hz := someE hF
          subst hz
          refine Exists.intro [] (Exists.intro [] (Exists.intro [] (Exists.intro [] (Exists.intro [] (And.intro rfl (And.intro rfl (And.intro rfl (And.intro rfl (And.intro rfl (And.intro rfl (And.intro trivial trivial)))))))))))
        · refine gdNT ?_
          refine gdNT ?_
          refine gdYF ?_
          refine condF ?_
          refine condF ?_
          have hz := someE hF
          subst hz
          refine Exists.intro [] (Exists.intro [] (Exists.intro [] (Exists.intro [] (Exists.intro [] (And.intro rfl (And.intro rfl (And.intro rfl (And.intro rfl (And.intro rfl (And.intro rfl (And.intro trivial trivial)))))))))))
      · refine gdNF ?_
        refine gdNF ?_
        refine gdNF ?_
        refine condT ?_
        have hz := someE hF
        subst hz
        refine Exists.intro [] (Exists.intro [] (Exists.intro [] (Exists.intro [] (Exists.intro [] (And.intro rfl (And.intro rfl (And.intro rfl (And.intro rfl (And.intro rfl (And.intro rfl (And.intro trivial trivial)))))))))))
    · refine And.intro ?_ trivial
      refine condI hF (fun hF => ?_) (fun hF => ?_)
      · refine Or.inl ?_
        refine Or.inl ?_
        obtain ⟨r8, hr8, hF⟩ := bindE hF
        refine Or.inr ⟨ext3 add64, [r8.1, r8.2], add64_ok, And.intro (ext3I hr8) ?_⟩
        have hz := someE hF
        subst hz
        refine Exists.intro [] (Exists.intro [] (Exists.intro [] (Exists.intro [] (Exists.intro [] (And.intro rfl (And.intro rfl (And.intro rfl (And.intro rfl (And.intro rfl (And.intro trivial trivial))))))))))
      · have hz := someE hF
        subst hz
        refine Exists.intro [] (Exists.intro [] (Exists.intro [] (Exists.intro [] (Exists.intro [] (And.intro rfl (And.intro rfl (And.intro rfl (And.intro rfl (And.intro rfl (And.intro trivial trivial))))))))))
  · refine And.intro ?_ trivial
    refine Or.inl ?_
    obtain ⟨r9, hr9, hF⟩ := bindE hF
    refine Or.inl (And.intro f79_in (callV0 (callI C79 (z6.2, z6.1, (!((decide (a < (0 : Int))) == (decide (b < (0 : Int)))))) r9 [] false C79_holds hr9 rfl rfl ?_)))
    refine (And.intro rfl (And.intro rfl (And.intro rfl (And.intro (fun h => nomatch h) (And.intro rfl (And.intro rfl (And.intro trivial (And.intro trivial ?_))))))))
    have hy := someE hF
    subst hy
    refine And.intro rfl (Exists.intro [] (Exists.intro [] (Exists.intro [] (Exists.intro [] (Exists.intro [] (And.intro rfl (And.intro rfl (And.intro trivial trivial))))))))
theorem C58_holds : C58.Holds Try.prog 58 := holds_of_vc tab_ok mixed (fn := Try.f58) (by kernel_rfl) rfl C58 (fun x y hF => C58_vc x.1 x.2 y hF)
theorem f58_in : ∃ fn, Try.prog.funcs[58]? = some fn ∧ fn.body.isSome = true ∧ (fn.name == "runtime.NumGoroutine") = false := ⟨Try.f58, by kernel_rfl, by kernel_rfl, by kernel_rfl⟩
end Go.Proofs
namespace Go.Proofs
open Go.AM
-- carousel/tens.both
def f55_58_j3 (a : (List Int) × (List Int)) (b : (List Int) × (List Int)) : Option Bool :=
  bindF (f14 (a.1, a.2)) fun r9 =>
  bif (!r9) then
    some true
  else
    bindF (f14 (b.1, b.2)) fun r10 =>
    some (!r10)
def f55_58_j2 (a : (List Int) × (List Int)) (b : (List Int) × (List Int)) : Option (Sum Unit Unit) :=
  bindF (f55_58_j3 a b) fun z8 =>
  bif z8 then
    some (Sum.inr ())
  else
    some (Sum.inl ())
def f55_58_l4 (a : (List Int) × (List Int)) (b : (List Int) × (List Int)) (r12 : Int × (List Int) × (List Int)) (q7_3 : List Int) (q7_7 : List Int) (go : (Int × (List Int)) → Option (List Int)) (v52 : Int) (l7 : List Int) : Option (List Int) :=
  bif (decide (v52 < (List.length r12.2.2 : Int))) then
    guardF (0 ≤ v52 ∧ v52 < (List.length q7_3 : Int)) <|
    guardF (0 ≤ (rd (0 : Int) q7_3 v52) ∧ (rd (0 : Int) q7_3 v52) < (List.length a.2 : Int)) <|
    guardF (0 ≤ v52 ∧ v52 < (List.length q7_7 : Int)) <|
    guardF (0 ≤ (rd (0 : Int) q7_7 v52) ∧ (rd (0 : Int) q7_7 v52) < (List.length b.2 : Int)) <|
    bindF (f58 (rd (0 : Int) a.2 (rd (0 : Int) q7_3 v52)) (rd (0 : Int) b.2 (rd (0 : Int) q7_7 v52))) fun q11_20 =>
    guardF (0 ≤ v52 ∧ v52 < (List.length l7 : Int)) <|
    go ((IntKind.i64.wrap (v52 + (1 : Int))), (List.set l7 (Int.toNat v52) q11_20))
  else
    some l7
def f55_58 (a : (List Int) × (List Int)) (b : (List Int) × (List Int)) : Option (Int × (List Int) × (List Int)) :=
  bindF (f55_58_j2 a b) fun z5 =>
  sumF z5 (fun z5a =>
    bindF (f75 a.1 b.1) fun r11 =>
    bif (r11.1 != (0 : Int)) then
      some (r11.1, [], [])
    else
      bindF (f23 r11.2 (0 : Int)) fun r12 =>
      bindF (f76 a.1 r11.2) fun q7_3 =>
      bindF (f76 b.1 r11.2) fun q7_7 =>
      bindF (loopF (fun go x => f55_58_l4 a b r12 q7_3 q7_7 go x.1 x.2) fuelN ((0 : Int), r12.2.2)) fun z13 =>
      some ((0 : Int), r12.2.1, z13)) (fun z5b =>
    some ((1 : Int), [], []))
def C55_58 : Con where
  X := ((List Int) × (List Int)) × ((List Int) × (List Int))
  Y := Int × (List Int) × (List Int)
  e := 0
  args x := [.dat (.p (.sl (.int .i64)) (.sl (.int .i64))) x.1, .dat (.p (.sl (.int .i64)) (.sl (.int .i64))) x.2, .raw false [(.c (.func (.func 58) #[] #[]))]]
  hin x := []
  F x := f55_58 x.1 x.2
  ret y := [.raw true [(.osl 0), (.osl 1)], .dat (.int .i64) y.1]
  hout y := [(0, .arr 3 (.int .i64) y.2.1), (1, .arr 24 (.int .i64) y.2.2)]
  nout := 2
theorem C55_58_vc (a : (List Int) × (List Int)) (b : (List Int) × (List Int)) (y : Int × (List Int) × (List Int)) (hF : f55_58 a b = some y) : vc Try.prog tab Try.f55.ntmps 0 (match Try.f55.body with | some c => c | none => .skip) (retK tab C55_58 Try.f55.results.toList y) (C55_58.shIn (a, b)).st := by
  unfold f55_58 at hF
  refine Or.inl ?_
  obtain ⟨z5, hz5, hF⟩ := bindE hF
  refine Or.inr ⟨Sum.elim (fun z5a => [(0, ⟨[(2, .raw false [(.c (.func (.func 58) #[] #[]))]), (3, .raw false [(.ptr 0 0)]), (4, .raw false [(.ptr 1 0)]), (6, .raw false [(.ptr 2 0)])], [(0, .cells [(.d (.sl (.int .i64)) a.1), (.d (.sl (.int .i64)) a.2)]), (1, .cells [(.d (.sl (.int .i64)) b.1), (.d (.sl (.int .i64)) b.2)]), (2, .cells [(.c (.slice none 0 0)), (.c (.slice none 0 0))])], 3⟩)]) (fun z5b => [(1, ⟨[(6, .raw false [(.ptr 0 0)]), (7, .dat (.int .i64) (1 : Int))], [(0, .cells [(.c (.slice none 0 0)), (.c (.slice none 0 0))])], 1⟩)]) z5, ?_, ?_⟩
  · have hF := hz5
    clear hz5
    unfold f55_58_j2 at hF
    obtain ⟨z8, hz8, hF⟩ := bindE hF
    refine Or.inr ⟨[(0, ⟨[(2, .raw false [(.c (.func (.func 58) #[] #[]))]), (3, .raw false [(.ptr 0 0)]), (4, .raw false [(.ptr 1 0)]), (6, .raw false [(.ptr 2 0)]), (22, .dat .bool z8)], [(0, .cells [(.d (.sl (.int .i64)) a.1), (.d (.sl (.int .i64)) a.2)]), (1, .cells [(.d (.sl (.int .i64)) b.1), (.d (.sl (.int .i64)) b.2)]), (2, .cells [(.c (.slice none 0 0)), (.c (.slice none 0 0))])], 3⟩)], ?_, ?_⟩
    · have hF := hz8
      clear hz8
      unfold f55_58_j3 at hF
      obtain ⟨r9, hr9, hF⟩ := bindE hF
      refine Or.inl (And.intro f14_in (callV0 (callI C14 (a.1, a.2) r9 [] false C14_holds hr9 rfl rfl ?_)))
      refine (And.intro rfl (And.intro rfl (And.intro (fun h => nomatch h) (And.intro rfl (And.intro rfl (And.intro trivial (And.intro trivial ?_)))))))
      refine condN hF (fun hF => ?_) (fun hF => ?_)
      · refine gdYF ?_
        obtain ⟨r10, hr10, hF⟩ := bindE hF
        refine Or.inl (And.intro f14_in (callV0 (callI C14 (b.1, b.2) r10 [] false C14_holds hr10 rfl rfl ?_)))
        refine (And.intro rfl (And.intro rfl (And.intro (fun h => nomatch h) (And.intro rfl (And.intro rfl (And.intro trivial (And.intro trivial ?_)))))))
        refine gdYF ?_
        refine condF ?_
        have hz := someE hF
        subst hz
        refine Exists.intro [] (Exists.intro [] (Exists.intro [] (Exists.intro [] (Exists.intro [(0, some 0), (1, some 1), (2, some 2)] (And.intro rfl (And.intro rfl (And.intro (And.intro rfl (And.intro rfl (And.intro rfl (And.intro rfl trivial)))) (And.intro rfl (And.intro rfl (And.intro rfl trivial))))))))))
      · refine gdNF ?_
        refine gdNF ?_
        refine condT ?_
        have hz := someE hF
        subst hz
        refine Exists.intro [] (Exists.intro [] (Exists.intro [] (Exists.intro [] (Exists.intro [(0, some 0), (1, some 1), (2, some 2)] (And.intro rfl (And.intro rfl (And.intro (And.intro rfl (And.intro rfl (And.intro rfl (And.intro rfl trivial)))) (And.intro rfl (And.intro rfl (And.intro rfl trivial))))))))))
    · refine And.intro ?_ trivial
      refine condI hF (fun hF => ?_) (fun hF => ?_)
      · refine Or.inl ?_
        refine Or.inl ?_
        have hz := someE hF
        subst hz
        refine Exists.intro [] (Exists.intro [] (Exists.intro [] (Exists.intro [] (Exists.intro [(0, some 2)] (And.intro rfl (And.intro rfl (And.intro (And.intro rfl trivial) (And.intro rfl trivial))))))))
      · have hz := someE hF
        subst hz
        refine Exists.intro [] (Exists.intro [] (Exists.intro [] (Exists.intro [] (Exists.intro [(0, some 0), (1, some 1), (2, some 2)] (And.intro rfl (And.intro (And.intro rfl (And.intro rfl (And.intro rfl (And.intro rfl trivial)))) (And.intro rfl (And.intro rfl (And.intro rfl trivial)))))))))
  · rcases z5 with z5a | z5b
    · dsimp only [sumF] at hF
      refine And.intro ?_ trivial
      refine Or.inl ?_
      obtain ⟨r11, hr11, hF⟩ := bindE hF
      refine Or.inl (And.intro f75_in (callV0 (callI C75 (a.1, b.1) r11 [] false C75_holds hr11 rfl rfl ?_)))
      refine (And.intro rfl (And.intro rfl (And.intro (fun h => nomatch h) (And.intro rfl (And.intro rfl (And.intro trivial (And.intro trivial ?_)))))))
      refine Or.inl ?_
      refine Or.inl ?_
      refine condI hF (fun hF => ?_) (fun hF => ?_)
      · refine Or.inl ?_
        refine Or.inl ?_
        have hy := someE hF
        subst hy
        refine And.intro rfl (Exists.intro [] (Exists.intro [] (Exists.intro [] (Exists.intro [] (Exists.intro [(0, none), (1, none)] (And.intro rfl (And.intro rfl (And.intro (And.intro rfl trivial) (And.intro rfl (And.intro rfl trivial))))))))))
      · refine Or.inl ?_
        obtain ⟨r12, hr12, hF⟩ := bindE hF
        refine Or.inl (And.intro f23_in (callV0 (callI C23 (r11.2, (0 : Int)) r12 [] true C23_holds hr12 rfl rfl ?_)))
        refine (And.intro rfl (And.intro rfl (And.intro (fun _ => rfl) (And.intro rfl (And.intro rfl (And.intro trivial (And.intro trivial ?_)))))))
        refine Or.inl ?_
        refine Or.inl ?_
        refine Exists.intro (.take 0 (.take 1 (.take 2 (.take 4 (.take 5 (.take 6 (.alt 3 (.alt 7 (.take 8 (.take 9 .done)) .done) .done))))))) (Exists.intro [] (Exists.intro [] (And.intro rfl ?_)))
        refine And.intro trivial ?_
        obtain ⟨q7_3, hq7_3, hF⟩ := bindE hF
        refine Or.inl (And.intro f76_in (callV0 (callI C76 (a.1, r11.2) q7_3 [] true C76_holds hq7_3 rfl rfl ?_)))
        refine (And.intro rfl (And.intro rfl (And.intro (fun _ => rfl) (And.intro rfl (And.intro rfl (And.intro trivial (And.intro trivial ?_)))))))
        refine And.intro trivial ?_
        obtain ⟨q7_7, hq7_7, hF⟩ := bindE hF
        refine Or.inl (And.intro f76_in (callV0 (callI C76 (b.1, r11.2) q7_7 [] true C76_holds hq7_7 rfl rfl ?_)))
        refine (And.intro rfl (And.intro rfl (And.intro (fun _ => rfl) (And.intro rfl (And.intro rfl (And.intro trivial (And.intro trivial ?_)))))))
        refine Or.inl ?_
        refine Or.inl ?_
        obtain ⟨z13, hz13, hF⟩ := bindE hF
        refine loopI (Int × (List Int)) (List Int) (fun x => ⟨[(2, .raw false [(.c (.func (.func 58) #[] #[]))]), (3, .raw false [(.ptr 0 0)]), (4, .raw false [(.ptr 1 0)]), (6, .raw false [(.ptr 2 0)]), (10, .raw false [(.ptr 3 0)]), (12, .raw false [(.osl 4)]), (13, .raw false [(.osl 5)]), (51, .dat (.int .i64) (List.length r12.2.2 : Int)), (52, .dat (.int .i64) x.1)], [(0, .cells [(.d (.sl (.int .i64)) a.1), (.d (.sl (.int .i64)) a.2)]), (1, .cells [(.d (.sl (.int .i64)) b.1), (.d (.sl (.int .i64)) b.2)]), (2, .cells [(.c (.slice none 0 0)), (.c (.slice none 0 0))]), (3, .cells [(.osl 6), (.osl 7)]), (4, .arr 3 (.int .i64) q7_3), (5, .arr 3 (.int .i64) q7_7), (6, .arr 3 (.int .i64) r12.2.1), (7, .arr 24 (.int .i64) x.2)], 8⟩) (fun z => [(2, ⟨[(6, .raw false [(.ptr 0 0)]), (10, .raw false [(.ptr 1 0)])], [(0, .cells [(.c (.slice none 0 0)), (.c (.slice none 0 0))]), (1, .cells [(.osl 2), (.osl 3)]), (2, .arr 3 (.int .i64) r12.2.1), (3, .arr 24 (.int .i64) z)], 4⟩)]) (loopF (fun go x => f55_58_l4 a b r12 q7_3 q7_7 go x.1 x.2)) fuelN ((0 : Int), r12.2.2) z13 (And.intro hz13 (And.intro (Exists.intro [] (Exists.intro [] (Exists.intro [] (Exists.intro [] (Exists.intro [(0, some 0), (1, some 1), (2, some 2), (3, some 6), (4, some 7), (5, some 8), (6, some 4), (7, some 5)] (And.intro rfl (And.intro rfl (And.intro rfl (And.intro (And.intro rfl (And.intro rfl (And.intro rfl (And.intro rfl (And.intro rfl (And.intro rfl (And.intro rfl trivial))))))) (And.intro rfl (And.intro rfl (And.intro rfl (And.intro rfl (And.intro rfl (And.intro rfl (And.intro rfl (And.intro rfl trivial))))))))))))))))) (And.intro (fun _ _ h => loopZ h) (And.intro (fun m => curI (fun v52 => fun l7 z hF => ?_)) ?_))))
        · have hF : f55_58_l4 a b r12 q7_3 q7_7 (loopF (fun go x => f55_58_l4 a b r12 q7_3 q7_7 go x.1 x.2) m) v52 l7 = some z := hF
          unfold f55_58_l4 at hF
          refine Or.inl ?_
          refine Or.inl ?_
          refine condI hF (fun hF => ?_) (fun hF => ?_)
          · refine Or.inl ?_
            refine Or.inl ?_
            refine Exists.intro (.take 0 (.take 1 (.take 2 (.take 3 (.take 4 (.take 5 (.take 6 (.take 7 (.take 8 (.take 9 (.take 10 (.take 11 (.take 12 (.take 13 (.take 14 (.take 15 (.take 16 (.take 17 (.take 18 (.take 19 (.alt 20 (.take 21 (.alt 22 .done .done)) .done))))))))))))))))))))) (Exists.intro [] (Exists.intro [] (And.intro rfl ?_)))
            refine guardI hF (fun hF => ?_)
            refine guardI hF (fun hF => ?_)
            refine guardI hF (fun hF => ?_)
            refine guardI hF (fun hF => ?_)
            refine And.intro trivial ?_
            obtain ⟨q11_20, hq11_20, hF⟩ := bindE hF
            refine Or.inl (And.intro f58_in (callV0 (callI C58 ((rd (0 : Int) a.2 (rd (0 : Int) q7_3 v52)), (rd (0 : Int) b.2 (rd (0 : Int) q7_7 v52))) q11_20 [] false C58_holds hq11_20 rfl rfl ?_)))
            refine (And.intro rfl (And.intro rfl (And.intro (fun h => nomatch h) (And.intro rfl (And.intro rfl (And.intro trivial (And.intro trivial ?_)))))))
            refine guardI hF (fun hF => ?_)
            refine And.intro trivial ?_
            refine Or.inl ?_
            refine Exists.intro ((IntKind.i64.wrap (v52 + (1 : Int))), (List.set l7 (Int.toNat v52) q11_20)) (And.intro hF (Exists.intro [] (Exists.intro [] (Exists.intro [] (Exists.intro [] (Exists.intro [(0, some 0), (1, some 1), (2, some 2), (3, some 3), (4, some 4), (5, some 5), (6, some 6), (7, some 7)] (And.intro rfl (And.intro rfl (And.intro rfl (And.intro (And.intro rfl (And.intro rfl (And.intro rfl (And.intro rfl (And.intro rfl (And.intro rfl (And.intro rfl trivial))))))) (And.intro rfl (And.intro rfl (And.intro rfl (And.intro rfl (And.intro rfl (And.intro rfl (And.intro rfl (And.intro rfl trivial))))))))))))))))))
          · have hz := someE hF
            subst hz
            refine Exists.intro [] (Exists.intro [] (Exists.intro [] (Exists.intro [] (Exists.intro [(0, some 2), (1, some 3), (2, some 6), (3, some 7)] (And.intro rfl (And.intro (And.intro rfl (And.intro rfl trivial)) (And.intro rfl (And.intro rfl (And.intro rfl (And.intro rfl trivial))))))))))
        · refine And.intro ?_ trivial
          refine Or.inl ?_
          refine Or.inl ?_
          have hy := someE hF
          subst hy
          refine And.intro rfl (Exists.intro [] (Exists.intro [] (Exists.intro [] (Exists.intro [] (Exists.intro [(0, some 2), (1, some 3)] (And.intro rfl (And.intro rfl (And.intro (And.intro rfl trivial) (And.intro rfl (And.intro rfl trivial))))))))))
    · dsimp only [sumF] at hF
      refine And.intro ?_ trivial
      have hy := someE hF
      subst hy
      refine And.intro rfl (Exists.intro [] (Exists.intro [] (Exists.intro [] (Exists.intro [] (Exists.intro [(0, none), (1, none)] (And.intro rfl (And.intro rfl (And.intro (And.intro rfl trivial) (And.intro rfl (And.intro rfl trivial))))))))))
theorem C55_58_holds : C55_58.Holds Try.prog 55 := holds_of_vc tab_ok mixed (fn := Try.f55) (by kernel_rfl) rfl C55_58 (fun x y hF => C55_58_vc x.1 x.2 y hF)
theorem f55_58_in : ∃ fn, Try.prog.funcs[55]? = some fn ∧ fn.body.isSome = true ∧ (fn.name == "runtime.NumGoroutine") = false := ⟨Try.f55, by kernel_rfl, by kernel_rfl, by kernel_rfl⟩
end Go.Proofs
namespace Go.Proofs
open Go.AM
-- carousel/tens.Mul
def f43 (a : (List Int) × (List Int)) (b : (List Int) × (List Int)) : Option (Int × (List Int) × (List Int)) :=
  bindF (f55_58 (a.1, a.2) (b.1, b.2)) fun r1 =>
  some (r1.1, r1.2.1, r1.2.2)
def C43 : Con where
  X := ((List Int) × (List Int)) × ((List Int) × (List Int))
  Y := Int × (List Int) × (List Int)
  e := 0
  args x := [.dat (.p (.sl (.int .i64)) (.sl (.int .i64))) x.1, .dat (.p (.sl (.int .i64)) (.sl (.int .i64))) x.2]
  hin x := []
  F x := f43 x.1 x.2
  ret y := [.raw true [(.osl 0), (.osl 1)], .dat (.int .i64) y.1]
  hout y := [(0, .arr 3 (.int .i64) y.2.1), (1, .arr 24 (.int .i64) y.2.2)]
  nout := 2
theorem C43_vc (a : (List Int) × (List Int)) (b : (List Int) × (List Int)) (y : Int × (List Int) × (List Int)) (hF : f43 a b = some y) : vc Try.prog tab Try.f43.ntmps 0 (match Try.f43.body with | some c => c | none => .skip) (retK tab C43 Try.f43.results.toList y) (C43.shIn (a, b)).st := by
  unfold f43 at hF
  refine Or.inl ?_
  refine Or.inl ?_
  obtain ⟨r1, hr1, hF⟩ := bindE hF
  refine Or.inl (And.intro f55_58_in (callV0 (callI C55_58 ((a.1, a.2), (b.1, b.2)) r1 [] false C55_58_holds hr1 rfl rfl ?_)))
  refine (And.intro rfl (And.intro rfl (And.intro rfl (And.intro rfl (And.intro (fun h => nomatch h) (And.intro rfl (And.intro rfl (And.intro (And.intro rfl trivial) (And.intro trivial ?_)))))))))
  refine Or.inl ?_
  have hy := someE hF
  subst hy
  refine And.intro rfl (Exists.intro [] (Exists.intro [] (Exists.intro [] (Exists.intro [] (Exists.intro [(0, some 3), (1, some 4)] (And.intro rfl (And.intro rfl (And.intro (And.intro rfl trivial) (And.intro rfl (And.intro rfl trivial))))))))))
theorem C43_holds : C43.Holds Try.prog 43 := holds_of_vc tab_ok mixed (fn := Try.f43) (by kernel_rfl) rfl C43 (fun x y hF => C43_vc x.1 x.2 y hF)
theorem f43_in : ∃ fn, Try.prog.funcs[43]? = some fn ∧ fn.body.isSome = true ∧ (fn.name == "runtime.NumGoroutine") = false := ⟨Try.f43, by kernel_rfl, by kernel_rfl, by kernel_rfl⟩
end Go.Proofs
namespace Go.Proofs
open Go.AM
-- carousel/matm.matrix
def f59 (t : (List Int) × (List Int)) : Option Bool :=
  some ((List.length t.1 : Int) == (2 : Int))
def C59 : Con where
  X := (List Int) × (List Int)
  Y := Bool
  e := 0
  args x := [.dat (.p (.sl (.int .i64)) (.sl (.int .i64))) x]
  hin x := []
  F x := f59 x
  ret y := [.dat .bool y]
  hout y := []
  nout := 0
theorem C59_vc (t : (List Int) × (List Int)) (y : Bool) (hF : f59 t = some y) : vc Try.prog tab Try.f59.ntmps 0 (match Try.f59.body with | some c => c | none => .skip) (retK tab C59 Try.f59.results.toList y) (C59.shIn t).st := by
  unfold f59 at hF
  refine Or.inl ?_
  refine Or.inl ?_
  have hy := someE hF
  subst hy
  refine And.intro rfl (Exists.intro [] (Exists.intro [] (Exists.intro [] (Exists.intro [] (Exists.intro [] (And.intro rfl (And.intro rfl (And.intro trivial trivial))))))))
theorem C59_holds : C59.Holds Try.prog 59 := holds_of_vc tab_ok mixed (fn := Try.f59) (by kernel_rfl) rfl C59 (fun x y hF => C59_vc x y hF)
theorem f59_in : ∃ fn, Try.prog.funcs[59]? = some fn ∧ fn.body.isSome = true ∧ (fn.name == "runtime.NumGoroutine") = false := ⟨Try.f59, by kernel_rfl, by kernel_rfl, by kernel_rfl⟩
end Go.Proofs
namespace Go.Proofs
open Go.AM
-- slices.Index[[]int,int]
def f99_l1 (s : List Int) (v : Int) (go : Int → Option (Sum Int Unit)) (v8 : Int) : Option (Sum Int Unit) :=
  bif (decide (v8 < (List.length s : Int))) then
    guardF (0 ≤ v8 ∧ v8 < (List.length s : Int)) <|
    bif (v == (rd (0 : Int) s v8)) then
      some (Sum.inl v8)
    else
      go (IntKind.i64.wrap (v8 + (1 : Int)))
  else
    some (Sum.inr ())
def f99 (s : List Int) (v : Int) : Option Int :=
  bindF (loopF (fun go x => f99_l1 s v go x) fuelN (0 : Int)) fun z1 =>
  sumF z1 (fun z1a =>
    some z1a) (fun z1b =>
    some (-1 : Int))
def C99 : Con where
  X := (List Int) × Int
  Y := Int
  e := 0
  args x := [.dat (.sl (.int .i64)) x.1, .dat (.int .i64) x.2]
  hin x := []
  F x := f99 x.1 x.2
  ret y := [.dat (.int .i64) y]
  hout y := []
  nout := 0
theorem C99_vc (s : List Int) (v : Int) (y : Int) (hF : f99 s v = some y) : vc Try.prog tab Try.f99.ntmps 0 (match Try.f99.body with | some c => c | none => .skip) (retK tab C99 Try.f99.results.toList y) (C99.shIn (s, v)).st := by
  unfold f99 at hF
  refine Or.inl ?_
  refine Or.inl ?_
  refine Or.inl ?_
  obtain ⟨z1, hz1, hF⟩ := bindE hF
  refine loopI Int (Sum Int Unit) (fun x => ⟨[(0, .dat (.sl (.int .i64)) s), (1, .dat (.int .i64) v), (7, .dat (.int .i64) (List.length s : Int)), (8, .dat (.int .i64) x)], [], 0⟩) (fun z => Sum.elim (fun za => [(1, ⟨[(4, .dat (.int .i64) za)], [], 0⟩)]) (fun zb => [(2, ⟨[], [], 0⟩)]) z) (loopF (fun go x => f99_l1 s v go x)) fuelN (0 : Int) z1 (And.intro hz1 (And.intro (Exists.intro [] (Exists.intro [] (Exists.intro [] (Exists.intro [] (Exists.intro [] (And.intro rfl (And.intro rfl (And.intro rfl (And.intro rfl (And.intro rfl (And.intro trivial trivial))))))))))) (And.intro (fun _ _ h => loopZ h) (And.intro (fun m => fun v8 z hF => ?_) ?_))))
  · have hF : f99_l1 s v (loopF (fun go x => f99_l1 s v go x) m) v8 = some z := hF
    unfold f99_l1 at hF
    refine Or.inl ?_
    refine Or.inl ?_
    refine condI hF (fun hF => ?_) (fun hF => ?_)
    · refine Or.inl ?_
      refine Or.inl ?_
      refine Or.inl ?_
      refine guardI hF (fun hF => ?_)
      refine condI hF (fun hF => ?_) (fun hF => ?_)
      · refine Or.inl ?_
        have hz := someE hF
        subst hz
        refine Exists.intro [] (Exists.intro [] (Exists.intro [] (Exists.intro [] (Exists.intro [] (And.intro rfl (And.intro rfl (And.intro trivial trivial)))))))
      · refine Exists.intro (IntKind.i64.wrap (v8 + (1 : Int))) (And.intro hF (Exists.intro [] (Exists.intro [] (Exists.intro [] (Exists.intro [] (Exists.intro [] (And.intro rfl (And.intro rfl (And.intro rfl (And.intro rfl (And.intro rfl (And.intro trivial trivial))))))))))))
    · have hz := someE hF
      subst hz
      refine Exists.intro [] (Exists.intro [] (Exists.intro [] (Exists.intro [] (Exists.intro [] (And.intro rfl (And.intro trivial trivial))))))
  · rcases z1 with z1a | z1b
    · dsimp only [sumF] at hF
      refine And.intro ?_ trivial
      have hy := someE hF
      subst hy
      refine And.intro rfl (Exists.intro [] (Exists.intro [] (Exists.intro [] (Exists.intro [] (Exists.intro [] (And.intro rfl (And.intro rfl (And.intro trivial trivial))))))))
    · dsimp only [sumF] at hF
      refine And.intro ?_ trivial
      refine Or.inl ?_
      have hy := someE hF
      subst hy
      refine And.intro rfl (Exists.intro [] (Exists.intro [] (Exists.intro [] (Exists.intro [] (Exists.intro [] (And.intro rfl (And.intro rfl (And.intro trivial trivial))))))))
theorem C99_holds : C99.Holds Try.prog 99 := holds_of_vc tab_ok mixed (fn := Try.f99) (by kernel_rfl) rfl C99 (fun x y hF => C99_vc x.1 x.2 y hF)
theorem f99_in : ∃ fn, Try.prog.funcs[99]? = some fn ∧ fn.body.isSome = true ∧ (fn.name == "runtime.NumGoroutine") = false := ⟨Try.f99, by kernel_rfl, by kernel_rfl, by kernel_rfl⟩
end Go.Proofs
namespace Go.Proofs
open Go.AM
-- slices.Contains[[]int,int]
def f96 (s : List Int) (v : Int) : Option Bool :=
  bindF (f99 s v) fun r1 =>
  some (decide (r1 ≥ (0 : Int)))
def C96 : Con where
  X := (List Int) × Int
  Y := Bool
  e := 0
  args x := [.dat (.sl (.int .i64)) x.1, .dat (.int .i64) x.2]
  hin x := []
  F x := f96 x.1 x.2
  ret y := [.dat .bool y]
  hout y := []
  nout := 0
theorem C96_vc (s : List Int) (v : Int) (y : Bool) (hF : f96 s v = some y) : vc Try.prog tab Try.f96.ntmps 0 (match Try.f96.body with | some c => c | none => .skip) (retK tab C96 Try.f96.results.toList y) (C96.shIn (s, v)).st := by
  unfold f96 at hF
  refine Or.inl ?_
  refine Or.inl ?_
  obtain ⟨r1, hr1, hF⟩ := bindE hF
  refine Or.inl (And.intro f99_in (callV0 (callI C99 (s, v) r1 [] false C99_holds hr1 rfl rfl ?_)))
  refine (And.intro rfl (And.intro rfl (And.intro (fun h => nomatch h) (And.intro rfl (And.intro rfl (And.intro trivial (And.intro trivial ?_)))))))
  have hy := someE hF
  subst hy
  refine And.intro rfl (Exists.intro [] (Exists.intro [] (Exists.intro [] (Exists.intro [] (Exists.intro [] (And.intro rfl (And.intro rfl (And.intro trivial trivial))))))))
theorem C96_holds : C96.Holds Try.prog 96 := holds_of_vc tab_ok mixed (fn := Try.f96) (by kernel_rfl) rfl C96 (fun x y hF => C96_vc x.1 x.2 y hF)
theorem f96_in : ∃ fn, Try.prog.funcs[96]? = some fn ∧ fn.body.isSome = true ∧ (fn.name == "runtime.NumGoroutine") = false := ⟨Try.f96, by kernel_rfl, by kernel_rfl, by kernel_rfl⟩
end Go.Proofs
namespace Go.Proofs
open Go.AM
-- carousel/tens.permutes
def f82_l1 (order : List Int) (n : Int) (go : Int → Option (Sum Unit Unit)) (v11 : Int) : Option (Sum Unit Unit) :=
  bif (decide (v11 < n)) then
    bindF (f96 order v11) fun r4 =>
    bif (!r4) then
      some (Sum.inl ())
    else
      go (IntKind.i64.wrap (v11 + (1 : Int)))
  else
    some (Sum.inr ())
def f82 (order : List Int) (n : Int) : Option Bool :=
  bif ((List.length order : Int) != n) then
    some false
  else
    bindF (loopF (fun go x => f82_l1 order n go x) fuelN (0 : Int)) fun z3 =>
    sumF z3 (fun z3a =>
      some false) (fun z3b =>
      some true)
def C82 : Con where
  X := (List Int) × Int
  Y := Bool
  e := 0
  args x := [.dat (.sl (.int .i64)) x.1, .dat (.int .i64) x.2]
  hin x := []
  F x := f82 x.1 x.2
  ret y := [.dat .bool y]
  hout y := []
  nout := 0
theorem C82_vc (order : List Int) (n : Int) (y : Bool) (hF : f82 order n = some y) : vc Try.prog tab Try.f82.ntmps 0 (match Try.f82.body with | some c => c | none => .skip) (retK tab C82 Try.f82.results.toList y) (C82.shIn (order, n)).st := by
  unfold f82 at hF
  refine Or.inl ?_
  refine Or.inl ?_
  refine Or.inl ?_
  refine condI hF (fun hF => ?_) (fun hF => ?_)
  · refine Or.inl ?_
    have hy := someE hF
    subst hy
    refine And.intro rfl (Exists.intro [] (Exists.intro [] (Exists.intro [] (Exists.intro [] (Exists.intro [] (And.intro rfl (And.intro rfl (And.intro trivial trivial))))))))
  · refine Or.inl ?_
    refine Or.inl ?_
    obtain ⟨z3, hz3, hF⟩ := bindE hF
    refine loopI Int (Sum Unit Unit) (fun x => ⟨[(0, .dat (.sl (.int .i64)) order), (10, .dat (.int .i64) n), (11, .dat (.int .i64) x)], [], 0⟩) (fun z => Sum.elim (fun za => [(1, ⟨[(4, .dat .bool false)], [], 0⟩)]) (fun zb => [(2, ⟨[], [], 0⟩)]) z) (loopF (fun go x => f82_l1 order n go x)) fuelN (0 : Int) z3 (And.intro hz3 (And.intro (Exists.intro [] (Exists.intro [] (Exists.intro [] (Exists.intro [] (Exists.intro [] (And.intro rfl (And.intro rfl (And.intro rfl (And.intro rfl (And.intro trivial trivial)))))))))) (And.intro (fun _ _ h => loopZ h) (And.intro (fun m => fun v11 z hF => ?_) ?_))))
    · have hF : f82_l1 order n (loopF (fun go x => f82_l1 order n go x) m) v11 = some z := hF
      unfold f82_l1 at hF
      refine Or.inl ?_
      refine Or.inl ?_
      refine condI hF (fun hF => ?_) (fun hF => ?_)
      · refine Or.inl ?_
        refine Or.inl ?_
        refine Or.inl ?_
        obtain ⟨r4, hr4, hF⟩ := bindE hF
        refine Or.inl (And.intro f96_in (callV0 (callI C96 (order, v11) r4 [] false C96_holds hr4 rfl rfl ?_)))
        refine (And.intro rfl (And.intro rfl (And.intro (fun h => nomatch h) (And.intro rfl (And.intro rfl (And.intro trivial (And.intro trivial ?_)))))))
        refine condI hF (fun hF => ?_) (fun hF => ?_)
        · refine Or.inl ?_
          have hz := someE hF
          subst hz
          refine Exists.intro [] (Exists.intro [] (Exists.intro [] (Exists.intro [] (Exists.intro [] (And.intro rfl (And.intro rfl (And.intro trivial trivial)))))))
        · refine Exists.intro (IntKind.i64.wrap (v11 + (1 : Int))) (And.intro hF (Exists.intro [] (Exists.intro [] (Exists.intro [] (Exists.intro [] (Exists.intro [] (And.intro rfl (And.intro rfl (And.intro rfl (And.intro rfl (And.intro trivial trivial)))))))))))
      · have hz := someE hF
        subst hz
        refine Exists.intro [] (Exists.intro [] (Exists.intro [] (Exists.intro [] (Exists.intro [] (And.intro rfl (And.intro trivial trivial))))))
    · rcases z3 with z3a | z3b
      · dsimp only [sumF] at hF
        refine And.intro ?_ trivial
        have hy := someE hF
        subst hy
        refine And.intro rfl (Exists.intro [] (Exists.intro [] (Exists.intro [] (Exists.intro [] (Exists.intro [] (And.intro rfl (And.intro rfl (And.intro trivial trivial))))))))
      · dsimp only [sumF] at hF
        refine And.intro ?_ trivial
        refine Or.inl ?_
        have hy := someE hF
        subst hy
        refine And.intro rfl (Exists.intro [] (Exists.intro [] (Exists.intro [] (Exists.intro [] (Exists.intro [] (And.intro rfl (And.intro rfl (And.intro trivial trivial))))))))
theorem C82_holds : C82.Holds Try.prog 82 := holds_of_vc tab_ok mixed (fn := Try.f82) (by kernel_rfl) rfl C82 (fun x y hF => C82_vc x.1 x.2 y hF)
theorem f82_in : ∃ fn, Try.prog.funcs[82]? = some fn ∧ fn.body.isSome = true ∧ (fn.name == "runtime.NumGoroutine") = false := ⟨Try.f82, by kernel_rfl, by kernel_rfl, by kernel_rfl⟩
end Go.Proofs
namespace Go.Proofs
open Go.AM
-- carousel/shape.Place
def f83_j1 (d : List Int) (at_ : Int) : Option (Sum Unit Unit) :=
  bif (decide (at_ < (0 : Int))) then
    some (Sum.inr ())
  else
    bindF (f26 d) fun r3 =>
    bif (decide (at_ ≥ r3)) then
      some (Sum.inr ())
    else
      some (Sum.inl ())
def f83_l2 (d : List Int) (go : (Int × Int × (List Int)) → Option (List Int)) (at__2 : Int) (i : Int) (l0 : List Int) : Option (List Int) :=
  bif (decide (i ≥ (0 : Int))) then
    guardF (0 ≤ i ∧ i < (List.length d : Int)) <|
    guardF ((rd (0 : Int) d i) ≠ 0) <|
    guardF (0 ≤ i ∧ i < (List.length l0 : Int)) <|
    guardF (0 ≤ i ∧ i < (List.length d : Int)) <|
    guardF ((rd (0 : Int) d i) ≠ 0) <|
    go ((IntKind.i64.wrap (Int.tdiv at__2 (rd (0 : Int) d i))), (IntKind.i64.wrap (i - (1 : Int))), (List.set l0 (Int.toNat i) (Int.tmod at__2 (rd (0 : Int) d i))))
  else
    some l0
def f83 (d : List Int) (at_ : Int) : Option (Bool × (List Int)) :=
  bindF (f83_j1 d at_) fun z2 =>
  sumF z2 (fun z2a =>
    guardF (0 ≤ (List.length d : Int) ∧ (List.length d : Int) ≤ (List.length d : Int) ∧ Int.toNat (List.length d : Int) * 8 ≤ 140737488355328) <|
    bindF (loopF (fun go x => f83_l2 d go x.1 x.2.1 x.2.2) fuelN (at_, (IntKind.i64.wrap ((List.length d : Int) - (1 : Int))), (List.replicate (Int.toNat (List.length d : Int)) (0 : Int)))) fun z4 =>
    some (true, z4)) (fun z2b =>
    some (false, []))
def C83 : Con where
  X := (List Int) × Int
  Y := Bool × (List Int)
  e := 0
  args x := [.dat (.sl (.int .i64)) x.1, .dat (.int .i64) x.2]
  hin x := []
  F x := f83 x.1 x.2
  ret y := [.raw false [(.osl 0)], .dat .bool y.1]
  hout y := [(0, .arr 3 (.int .i64) y.2)]
  nout := 1
theorem C83_vc (d : List Int) (at_ : Int) (y : Bool × (List Int)) (hF : f83 d at_ = some y) : vc Try.prog tab Try.f83.ntmps 0 (match Try.f83.body with | some c => c | none => .skip) (retK tab C83 Try.f83.results.toList y) (C83.shIn (d, at_)).st := by
  unfold f83 at hF
  refine Or.inl ?_
  obtain ⟨z2, hz2, hF⟩ := bindE hF
  refine Or.inr ⟨Sum.elim (fun z2a => [(0, ⟨[(0, .dat (.sl (.int .i64)) d), (1, .dat (.int .i64) at_)], [], 0⟩)]) (fun z2b => [(1, ⟨[(4, .raw false [(.c (.slice none 0 0))]), (5, .dat .bool false)], [], 0⟩)]) z2, ?_, ?_⟩
  · have hF := hz2
    clear hz2
    unfold f83_j1 at hF
    refine Or.inl ?_
    refine condN hF (fun hF => ?_) (fun hF => ?_)
    · refine gdYF ?_
      refine gdYF ?_
      obtain ⟨r3, hr3, hF⟩ := bindE hF
      refine Or.inl (And.intro f26_in (callV0 (callI C26 d r3 [] false C26_holds hr3 rfl rfl ?_)))
      refine (And.intro rfl (And.intro (fun h => nomatch h) (And.intro rfl (And.intro rfl (And.intro trivial (And.intro trivial ?_))))))
      refine gdYF ?_
      refine condF ?_
      refine condI hF (fun hF => ?_) (fun hF => ?_)
      · refine Or.inl ?_
        have hz := someE hF
        subst hz
        refine Exists.intro [] (Exists.intro [] (Exists.intro [] (Exists.intro [] (Exists.intro [] (And.intro rfl (And.intro rfl (And.intro (And.intro rfl trivial) trivial)))))))
      · have hz := someE hF
        subst hz
        refine Exists.intro [] (Exists.intro [] (Exists.intro [] (Exists.intro [] (Exists.intro [] (And.intro rfl (And.intro rfl (And.intro rfl (And.intro trivial trivial))))))))
    · refine gdNF ?_
      refine gdNF ?_
      refine gdNF ?_
      refine condT ?_
      refine condT ?_
      refine Or.inl ?_
      have hz := someE hF
      subst hz
      refine Exists.intro [] (Exists.intro [] (Exists.intro [] (Exists.intro [] (Exists.intro [] (And.intro rfl (And.intro rfl (And.intro (And.intro rfl trivial) trivial)))))))
  · rcases z2 with z2a | z2b
    · dsimp only [sumF] at hF
      refine And.intro ?_ trivial
      refine Or.inl ?_
      refine guardI hF (fun hF => ?_)
      refine Or.inl ?_
      refine Or.inl ?_
      obtain ⟨z4, hz4, hF⟩ := bindE hF
      refine loopI (Int × Int × (List Int)) (List Int) (fun x => ⟨[(0, .dat (.sl (.int .i64)) d), (1, .dat (.int .i64) x.1), (6, .raw false [(.osl 0)]), (7, .dat (.int .i64) x.2.1)], [(0, .arr 3 (.int .i64) x.2.2)], 1⟩) (fun z => [(2, ⟨[(6, .raw false [(.osl 0)])], [(0, .arr 3 (.int .i64) z)], 1⟩)]) (loopF (fun go x => f83_l2 d go x.1 x.2.1 x.2.2)) fuelN (at_, (IntKind.i64.wrap ((List.length d : Int) - (1 : Int))), (List.replicate (Int.toNat (List.length d : Int)) (0 : Int))) z4 (And.intro hz4 (And.intro (Exists.intro [] (Exists.intro [] (Exists.intro [] (Exists.intro [] (Exists.intro [(0, some 0)] (And.intro rfl (And.intro rfl (And.intro rfl (And.intro rfl (And.intro (And.intro rfl trivial) (And.intro rfl trivial))))))))))) (And.intro (fun _ _ h => loopZ h) (And.intro (fun m => curI (fun at__2 => curI (fun i => fun l0 z hF => ?_))) ?_))))
      · have hF : f83_l2 d (loopF (fun go x => f83_l2 d go x.1 x.2.1 x.2.2) m) at__2 i l0 = some z := hF
        unfold f83_l2 at hF
        refine Or.inl ?_
        refine Or.inl ?_
        refine condI hF (fun hF => ?_) (fun hF => ?_)
        · refine Or.inl ?_
          refine Or.inl ?_
          refine guardI hF (fun hF => ?_)
          refine guardI hF (fun hF => ?_)
          refine guardI hF (fun hF => ?_)
          refine Or.inl ?_
          refine guardI hF (fun hF => ?_)
          refine guardI hF (fun hF => ?_)
          refine Exists.intro ((IntKind.i64.wrap (Int.tdiv at__2 (rd (0 : Int) d i))), (IntKind.i64.wrap (i - (1 : Int))), (List.set l0 (Int.toNat i) (Int.tmod at__2 (rd (0 : Int) d i)))) (And.intro hF (Exists.intro [] (Exists.intro [] (Exists.intro [] (Exists.intro [] (Exists.intro [(0, some 0)] (And.intro rfl (And.intro rfl (And.intro rfl (And.intro rfl (And.intro (And.intro rfl trivial) (And.intro rfl trivial))))))))))))
        · have hz := someE hF
          subst hz
          refine Exists.intro [] (Exists.intro [] (Exists.intro [] (Exists.intro [] (Exists.intro [(0, some 0)] (And.intro rfl (And.intro (And.intro rfl trivial) (And.intro rfl trivial)))))))
      · refine And.intro ?_ trivial
        refine Or.inl ?_
        have hy := someE hF
        subst hy
        refine And.intro rfl (Exists.intro [] (Exists.intro [] (Exists.intro [] (Exists.intro [] (Exists.intro [(0, some 0)] (And.intro rfl (And.intro rfl (And.intro (And.intro rfl trivial) (And.intro rfl trivial)))))))))
    · dsimp only [sumF] at hF
      refine And.intro ?_ trivial
      have hy := someE hF
      subst hy
      refine And.intro rfl (Exists.intro [] (Exists.intro [] (Exists.intro [] (Exists.intro [] (Exists.intro [(0, none)] (And.intro rfl (And.intro rfl (And.intro (And.intro rfl trivial) (And.intro rfl trivial)))))))))
theorem C83_holds : C83.Holds Try.prog 83 := holds_of_vc tab_ok mixed (fn := Try.f83) (by kernel_rfl) rfl C83 (fun x y hF => C83_vc x.1 x.2 y hF)
theorem f83_in : ∃ fn, Try.prog.funcs[83]? = some fn ∧ fn.body.isSome = true ∧ (fn.name == "runtime.NumGoroutine") = false := ⟨Try.f83, by kernel_rfl, by kernel_rfl, by kernel_rfl⟩
end Go.Proofs
namespace Go.Proofs
open Go.AM
-- carousel/shape.At
def f84_j1 (d : List Int) (place_ : List Int) : Option (Sum Unit Unit) :=
  bindF (f25 d) fun r3 =>
  bif (!r3) then
    some (Sum.inr ())
  else
    bif ((List.length place_ : Int) != (List.length d : Int)) then
      some (Sum.inr ())
    else
      some (Sum.inl ())
def f84_j5 (d : List Int) (place_ : List Int) (v21 : Int) : Option (Sum Unit Unit) :=
  bif (decide ((rd (0 : Int) place_ v21) < (0 : Int))) then
    some (Sum.inr ())
  else
    guardF (0 ≤ v21 ∧ v21 < (List.length d : Int)) <|
    bif (decide ((rd (0 : Int) place_ v21) ≥ (rd (0 : Int) d v21))) then
      some (Sum.inr ())
    else
      some (Sum.inl ())
def f84_l4 (d : List Int) (place_ : List Int) (go : (Int × Int) → Option (Sum Unit Int)) (at_ : Int) (v21 : Int) : Option (Sum Unit Int) :=
  bif (decide (v21 < (List.length place_ : Int))) then
    guardF (0 ≤ v21 ∧ v21 < (List.length place_ : Int)) <|
    bindF (f84_j5 d place_ v21) fun z7 =>
    sumF z7 (fun z7a =>
      guardF (0 ≤ v21 ∧ v21 < (List.length d : Int)) <|
      go ((IntKind.i64.wrap ((IntKind.i64.wrap (at_ * (rd (0 : Int) d v21))) + (rd (0 : Int) place_ v21))), (IntKind.i64.wrap (v21 + (1 : Int))))) (fun z7b =>
      some (Sum.inl ()))
  else
    some (Sum.inr at_)
def f84 (d : List Int) (place_ : List Int) : Option (Int × Bool) :=
  bindF (f84_j1 d place_) fun z2 =>
  sumF z2 (fun z2a =>
    bindF (loopF (fun go x => f84_l4 d place_ go x.1 x.2) fuelN ((0 : Int), (0 : Int))) fun z6 =>
    sumF z6 (fun z6a =>
      some ((0 : Int), false)) (fun z6b =>
      some (z6b, true))) (fun z2b =>
    some ((0 : Int), false))
def C84 : Con where
  X := (List Int) × (List Int)
  Y := Int × Bool
  e := 0
  args x := [.dat (.sl (.int .i64)) x.1, .dat (.sl (.int .i64)) x.2]
  hin x := []
  F x := f84 x.1 x.2
  ret y := [.dat (.int .i64) y.1, .dat .bool y.2]
  hout y := []
  nout := 0
theorem C84_vc (d : List Int) (place_ : List Int) (y : Int × Bool) (hF : f84 d place_ = some y) : vc Try.prog tab Try.f84.ntmps 0 (match Try.f84.body with | some c => c | none => .skip) (retK tab C84 Try.f84.results.toList y) (C84.shIn (d, place_)).st := by
  unfold f84 at hF
  refine Or.inl ?_
  obtain ⟨z2, hz2, hF⟩ := bindE hF
  refine Or.inr ⟨Sum.elim (fun z2a => [(0, ⟨[(0, .dat (.sl (.int .i64)) d), (1, .dat (.sl (.int .i64)) place_)], [], 0⟩)]) (fun z2b => [(1, ⟨[(4, .dat (.int .i64) (0 : Int)), (5, .dat .bool false)], [], 0⟩)]) z2, ?_, ?_⟩
  · have hF := hz2
    clear hz2
    unfold f84_j1 at hF
    refine Or.inl ?_
    obtain ⟨r3, hr3, hF⟩ := bindE hF
    refine Or.inl (And.intro f25_in (callV0 (callI C25 d r3 [] false C25_holds hr3 rfl rfl ?_)))
    refine (And.intro rfl (And.intro (fun h => nomatch h) (And.intro rfl (And.intro rfl (And.intro trivial (And.intro trivial ?_))))))
    refine condN hF (fun hF => ?_) (fun hF => ?_)
    · refine gdYF ?_
      refine gdYF ?_
      refine gdYF ?_
      refine gdYF ?_
      refine condF ?_
      refine condI hF (fun hF => ?_) (fun hF => ?_)
      · refine Or.inl ?_
        have hz := someE hF
        subst hz
        refine Exists.intro [] (Exists.intro [] (Exists.intro [] (Exists.intro [] (Exists.intro [] (And.intro rfl (And.intro rfl (And.intro rfl (And.intro trivial trivial))))))))
      · have hz := someE hF
        subst hz
        refine Exists.intro [] (Exists.intro [] (Exists.intro [] (Exists.intro [] (Exists.intro [] (And.intro rfl (And.intro rfl (And.intro rfl (And.intro trivial trivial))))))))
    · refine gdNF ?_
      refine gdNF ?_
      refine gdNF ?_
      refine gdNF ?_
      refine condT ?_
      refine condT ?_
      refine Or.inl ?_
      have hz := someE hF
      subst hz
      refine Exists.intro [] (Exists.intro [] (Exists.intro [] (Exists.intro [] (Exists.intro [] (And.intro rfl (And.intro rfl (And.intro rfl (And.intro trivial trivial))))))))
  · rcases z2 with z2a | z2b
    · dsimp only [sumF] at hF
      refine And.intro ?_ trivial
      refine Or.inl ?_
      refine Or.inl ?_
      refine Or.inl ?_
      obtain ⟨z6, hz6, hF⟩ := bindE hF
      refine loopI (Int × Int) (Sum Unit Int) (fun x => ⟨[(0, .dat (.sl (.int .i64)) d), (6, .dat (.int .i64) x.1), (19, .dat (.sl (.int .i64)) place_), (20, .dat (.int .i64) (List.length place_ : Int)), (21, .dat (.int .i64) x.2)], [], 0⟩) (fun z => Sum.elim (fun za => [(1, ⟨[(4, .dat (.int .i64) (0 : Int)), (5, .dat .bool false)], [], 0⟩)]) (fun zb => [(2, ⟨[(6, .dat (.int .i64) zb)], [], 0⟩)]) z) (loopF (fun go x => f84_l4 d place_ go x.1 x.2)) fuelN ((0 : Int), (0 : Int)) z6 (And.intro hz6 (And.intro (Exists.intro [] (Exists.intro [] (Exists.intro [] (Exists.intro [] (Exists.intro [] (And.intro rfl (And.intro rfl (And.intro rfl (And.intro rfl (And.intro rfl (And.intro rfl (And.intro trivial trivial)))))))))))) (And.intro (fun _ _ h => loopZ h) (And.intro (fun m => curI (fun at_ => fun v21 z hF => ?_)) ?_))))
      · have hF : f84_l4 d place_ (loopF (fun go x => f84_l4 d place_ go x.1 x.2) m) at_ v21 = some z := hF
        unfold f84_l4 at hF
        refine Or.inl ?_
        refine Or.inl ?_
        refine condI hF (fun hF => ?_) (fun hF => ?_)
        · refine Or.inl ?_
          refine Or.inl ?_
          refine guardI hF (fun hF => ?_)
          obtain ⟨z7, hz7, hF⟩ := bindE hF
          refine Or.inr ⟨Sum.elim (fun z7a => [(0, ⟨[(0, .dat (.sl (.int .i64)) d), (6, .dat (.int .i64) at_), (7, .dat (.int .i64) v21), (8, .dat (.int .i64) (rd (0 : Int) place_ v21)), (19, .dat (.sl (.int .i64)) place_), (20, .dat (.int .i64) (List.length place_ : Int)), (21, .dat (.int .i64) v21)], [], 0⟩)]) (fun z7b => [(1, ⟨[(4, .dat (.int .i64) (0 : Int)), (5, .dat .bool false)], [], 0⟩)]) z7, ?_, ?_⟩
          · have hF := hz7
            clear hz7
            unfold f84_j5 at hF
            refine Or.inl ?_
            refine condN hF (fun hF => ?_) (fun hF => ?_)
            · refine gdYF ?_
              refine gdYF ?_
              refine gdYF ?_
              refine guardI hF (fun hF => ?_)
              refine gdYF ?_
              refine gdYF ?_
              refine condF ?_
              refine condI hF (fun hF => ?_) (fun hF => ?_)
              · refine Or.inl ?_
                have hz := someE hF
                subst hz
                refine Exists.intro [] (Exists.intro [] (Exists.intro [] (Exists.intro [] (Exists.intro [] (And.intro rfl (And.intro rfl (And.intro rfl (And.intro trivial trivial))))))))
              · have hz := someE hF
                subst hz
                refine Exists.intro [] (Exists.intro [] (Exists.intro [] (Exists.intro [] (Exists.intro [] (And.intro rfl (And.intro rfl (And.intro rfl (And.intro rfl (And.intro rfl (And.intro rfl (And.intro rfl (And.intro rfl (And.intro trivial trivial)))))))))))))
            · refine gdNF ?_
              refine gdNF ?_
              refine gdNF ?_
              refine gdNF ?_
              refine gdNF ?_
              refine condT ?_
              refine condT ?_
              refine Or.inl ?_
              have hz := someE hF
              subst hz
              refine Exists.intro [] (Exists.intro [] (Exists.intro [] (Exists.intro [] (Exists.intro [] (And.intro rfl (And.intro rfl (And.intro rfl (And.intro trivial trivial))))))))
          · rcases z7 with z7a | z7b
            · dsimp only [sumF] at hF
              refine And.intro ?_ trivial
              refine guardI hF (fun hF => ?_)
              refine Exists.intro ((IntKind.i64.wrap ((IntKind.i64.wrap (at_ * (rd (0 : Int) d v21))) + (rd (0 : Int) place_ v21))), (IntKind.i64.wrap (v21 + (1 : Int)))) (And.intro hF (Exists.intro [] (Exists.intro [] (Exists.intro [] (Exists.intro [] (Exists.intro [] (And.intro rfl (And.intro rfl (And.intro rfl (And.intro rfl (And.intro rfl (And.intro rfl (And.intro trivial trivial)))))))))))))
            · dsimp only [sumF] at hF
              refine And.intro ?_ trivial
              have hz := someE hF
              subst hz
              refine Exists.intro [] (Exists.intro [] (Exists.intro [] (Exists.intro [] (Exists.intro [] (And.intro rfl (And.intro rfl (And.intro rfl (And.intro trivial trivial))))))))
        · have hz := someE hF
          subst hz
          refine Exists.intro [] (Exists.intro [] (Exists.intro [] (Exists.intro [] (Exists.intro [] (And.intro rfl (And.intro rfl (And.intro trivial trivial)))))))
      · rcases z6 with z6a | z6b
        · dsimp only [sumF] at hF
          refine And.intro ?_ trivial
          have hy := someE hF
          subst hy
          refine And.intro rfl (Exists.intro [] (Exists.intro [] (Exists.intro [] (Exists.intro [] (Exists.intro [] (And.intro rfl (And.intro rfl (And.intro rfl (And.intro trivial trivial)))))))))
        · dsimp only [sumF] at hF
          refine And.intro ?_ trivial
          refine Or.inl ?_
          have hy := someE hF
          subst hy
          refine And.intro rfl (Exists.intro [] (Exists.intro [] (Exists.intro [] (Exists.intro [] (Exists.intro [] (And.intro rfl (And.intro rfl (And.intro rfl (And.intro trivial trivial)))))))))
    · dsimp only [sumF] at hF
      refine And.intro ?_ trivial
      have hy := someE hF
      subst hy
      refine And.intro rfl (Exists.intro [] (Exists.intro [] (Exists.intro [] (Exists.intro [] (Exists.intro [] (And.intro rfl (And.intro rfl (And.intro rfl (And.intro trivial trivial)))))))))
theorem C84_holds : C84.Holds Try.prog 84 := holds_of_vc tab_ok mixed (fn := Try.f84) (by kernel_rfl) rfl C84 (fun x y hF => C84_vc x.1 x.2 y hF)
theorem f84_in : ∃ fn, Try.prog.funcs[84]? = some fn ∧ fn.body.isSome = true ∧ (fn.name == "runtime.NumGoroutine") = false := ⟨Try.f84, by kernel_rfl, by kernel_rfl, by kernel_rfl⟩
end Go.Proofs
