import Derived.Test.YtgkmdgdkmgkelaaGreatGradKnownF1
set_option linter.unusedVariables false
set_option maxRecDepth 100000
set_option maxHeartbeats 8000000
namespace Go.Proofs
open Go.AM
-- carousel/tens.both
def f120_68_j3 (a : (List Int) × (List Int)) (b : (List Int) × (List Int)) : Option Bool :=
  bindF (f86 (a.1, a.2)) fun r9 =>
  bif (!r9) then
    some true
  else
    bindF (f86 (b.1, b.2)) fun r10 =>
    some (!r10)
def f120_68_j2 (a : (List Int) × (List Int)) (b : (List Int) × (List Int)) : Option (Sum Unit Unit) :=
  bindF (f120_68_j3 a b) fun z8 =>
  bif z8 then
    some (Sum.inr ())
  else
    some (Sum.inl ())
def f120_68_l4 (a : (List Int) × (List Int)) (b : (List Int) × (List Int)) (r12 : Int × (List Int) × (List Int)) (q7_3 : List Int) (q7_7 : List Int) (go : (Int × (List Int)) → Option (List Int)) (v52 : Int) (l7 : List Int) : Option (List Int) :=
  bif (decide (v52 < (List.length r12.2.2 : Int))) then
    guardF (0 ≤ v52 ∧ v52 < (List.length q7_3 : Int)) <|
    guardF (0 ≤ (rd (0 : Int) q7_3 v52) ∧ (rd (0 : Int) q7_3 v52) < (List.length a.2 : Int)) <|
    guardF (0 ≤ v52 ∧ v52 < (List.length q7_7 : Int)) <|
    guardF (0 ≤ (rd (0 : Int) q7_7 v52) ∧ (rd (0 : Int) q7_7 v52) < (List.length b.2 : Int)) <|
    bindF (f68 (rd (0 : Int) a.2 (rd (0 : Int) q7_3 v52)) (rd (0 : Int) b.2 (rd (0 : Int) q7_7 v52))) fun q11_20 =>
    guardF (0 ≤ v52 ∧ v52 < (List.length l7 : Int)) <|
    go ((IntKind.i64.wrap (v52 + (1 : Int))), (List.set l7 (Int.toNat v52) q11_20))
  else
    some l7
def f120_68 (a : (List Int) × (List Int)) (b : (List Int) × (List Int)) : Option (Int × (List Int) × (List Int)) :=
  bindF (f120_68_j2 a b) fun z5 =>
  sumF z5 (fun z5a =>
    bindF (f141 a.1 b.1) fun r11 =>
    bif (r11.1 != (0 : Int)) then
      some (r11.1, [], [])
    else
      bindF (f52 r11.2 (0 : Int)) fun r12 =>
      bindF (f142 a.1 r11.2) fun q7_3 =>
      bindF (f142 b.1 r11.2) fun q7_7 =>
      bindF (loopF (fun go x => f120_68_l4 a b r12 q7_3 q7_7 go x.1 x.2) fuelN ((0 : Int), r12.2.2)) fun z13 =>
      some ((0 : Int), r12.2.1, z13)) (fun z5b =>
    some ((1 : Int), [], []))
def C120_68 : Con where
  X := ((List Int) × (List Int)) × ((List Int) × (List Int))
  Y := Int × (List Int) × (List Int)
  e := 0
  args x := [.dat (.p (.sl (.int .i64)) (.sl (.int .i64))) x.1, .dat (.p (.sl (.int .i64)) (.sl (.int .i64))) x.2, .raw false [(.c (.func (.func 68) #[] #[]))]]
  hin x := []
  F x := f120_68 x.1 x.2
  ret y := [.raw true [(.osl 0), (.osl 1)], .dat (.int .i64) y.1]
  hout y := [(0, .arr 3 (.int .i64) y.2.1), (1, .arr 23 (.int .i64) y.2.2)]
  nout := 2
theorem C120_68_vc (a : (List Int) × (List Int)) (b : (List Int) × (List Int)) (y : Int × (List Int) × (List Int)) (hF : f120_68 a b = some y) : vc Tryz.prog tab Tryz.f120.ntmps 0 (match Tryz.f120.body with | some c => c | none => .skip) (retK tab C120_68 Tryz.f120.results.toList y) (C120_68.shIn (a, b)).st := by
  unfold f120_68 at hF
  refine Or.inl ?_
  obtain ⟨z5, hz5, hF⟩ := bindE hF
  refine Or.inr ⟨Sum.elim (fun z5a => [(0, ⟨[(2, .raw false [(.c (.func (.func 68) #[] #[]))]), (3, .raw false [(.ptr 0 0)]), (4, .raw false [(.ptr 1 0)]), (6, .raw false [(.ptr 2 0)])], [(0, .cells [(.d (.sl (.int .i64)) a.1), (.d (.sl (.int .i64)) a.2)]), (1, .cells [(.d (.sl (.int .i64)) b.1), (.d (.sl (.int .i64)) b.2)]), (2, .cells [(.c (.slice none 0 0)), (.c (.slice none 0 0))])], 3⟩)]) (fun z5b => [(1, ⟨[(6, .raw false [(.ptr 0 0)]), (7, .dat (.int .i64) (1 : Int))], [(0, .cells [(.c (.slice none 0 0)), (.c (.slice none 0 0))])], 1⟩)]) z5, ?_, ?_⟩
  · have hF := hz5
    clear hz5
    unfold f120_68_j2 at hF
    obtain ⟨z8, hz8, hF⟩ := bindE hF
    refine Or.inr ⟨[(0, ⟨[(2, .raw false [(.c (.func (.func 68) #[] #[]))]), (3, .raw false [(.ptr 0 0)]), (4, .raw false [(.ptr 1 0)]), (6, .raw false [(.ptr 2 0)]), (22, .dat .bool z8)], [(0, .cells [(.d (.sl (.int .i64)) a.1), (.d (.sl (.int .i64)) a.2)]), (1, .cells [(.d (.sl (.int .i64)) b.1), (.d (.sl (.int .i64)) b.2)]), (2, .cells [(.c (.slice none 0 0)), (.c (.slice none 0 0))])], 3⟩)], ?_, ?_⟩
    · have hF := hz8
      clear hz8
      unfold f120_68_j3 at hF
      obtain ⟨r9, hr9, hF⟩ := bindE hF
      refine Or.inl (And.intro f86_in (callV0 (callI C86 (a.1, a.2) r9 [] false C86_holds hr9 rfl rfl ?_)))
      refine (And.intro rfl (And.intro rfl (And.intro (fun h => nomatch h) (And.intro rfl (And.intro rfl (And.intro trivial (And.intro trivial ?_)))))))
      refine condN hF (fun hF => ?_) (fun hF => ?_)
      · refine gdYF ?_
        obtain ⟨r10, hr10, hF⟩ := bindE hF
        refine Or.inl (And.intro f86_in (callV0 (callI C86 (b.1, b.2) r10 [] false C86_holds hr10 rfl rfl ?_)))
        refine (And.intro rfl (And.intro rfl (And.intro (fun h => nomatch h) (And.intro rfl (And.intro rfl (And.intro trivial (And.intro trivial ?_)))))))
        refine gdYF ?_
        refine condF ?_
        have hz := someE hF
        subst hz
        refine Exists.intro [] (Exists.intro [] (Exists.intro [] (Exists.intro [] (Exists.intro [(0, some 0), (1, some 1), (2, some 2)] (And.intro rfl (And.intro rfl (And.intro (And.intro rfl (And.intro rfl (And.intro rfl (And.intro rfl trivial)))) (And.intro rfl (And.intro rfl (And.intro rfl trivial))))))))))
      · refine gdNF ?_
        refine gdNF ?_
        refine condT ?_
        have hz := someE hF
        subst hz
        refine Exists.intro [] (Exists.intro [] (Exists.intro [] (Exists.intro [] (Exists.intro [(0, some 0), (1, some 1), (2, some 2)] (And.intro rfl (And.intro rfl (And.intro (And.intro rfl (And.intro rfl (And.intro rfl (And.intro rfl trivial)))) (And.intro rfl (And.intro rfl (And.intro rfl trivial))))))))))
    · refine And.intro ?_ trivial
      refine condI hF (fun hF => ?_) (fun hF => ?_)
      · refine Or.inl ?_
        refine Or.inl ?_
        have hz := someE hF
        subst hz
        refine Exists.intro [] (Exists.intro [] (Exists.intro [] (Exists.intro [] (Exists.intro [(0, some 2)] (And.intro rfl (And.intro rfl (And.intro (And.intro rfl trivial) (And.intro rfl trivial))))))))
      · have hz := someE hF
        subst hz
        refine Exists.intro [] (Exists.intro [] (Exists.intro [] (Exists.intro [] (Exists.intro [(0, some 0), (1, some 1), (2, some 2)] (And.intro rfl (And.intro (And.intro rfl (And.intro rfl (And.intro rfl (And.intro rfl trivial)))) (And.intro rfl (And.intro rfl (And.intro rfl trivial)))))))))
  · rcases z5 with z5a | z5b
    · dsimp only [sumF] at hF
      refine And.intro ?_ trivial
      refine Or.inl ?_
      obtain ⟨r11, hr11, hF⟩ := bindE hF
      refine Or.inl (And.intro f141_in (callV0 (callI C141 (a.1, b.1) r11 [] false C141_holds hr11 rfl rfl ?_)))
      refine (And.intro rfl (And.intro rfl (And.intro (fun h => nomatch h) (And.intro rfl (And.intro rfl (And.intro trivial (And.intro trivial ?_)))))))
      refine Or.inl ?_
      refine Or.inl ?_
      refine condI hF (fun hF => ?_) (fun hF => ?_)
      · refine Or.inl ?_
        refine Or.inl ?_
        have hy := someE hF
        subst hy
        refine And.intro rfl (Exists.intro [] (Exists.intro [] (Exists.intro [] (Exists.intro [] (Exists.intro [(0, none), (1, none)] (And.intro rfl (And.intro rfl (And.intro (And.intro rfl trivial) (And.intro rfl (And.intro rfl trivial))))))))))
      · refine Or.inl ?_
        obtain ⟨r12, hr12, hF⟩ := bindE hF
        refine Or.inl (And.intro f52_in (callV0 (callI C52 (r11.2, (0 : Int)) r12 [] true C52_holds hr12 rfl rfl ?_)))
        refine (And.intro rfl (And.intro rfl (And.intro (fun _ => rfl) (And.intro rfl (And.intro rfl (And.intro trivial (And.intro trivial ?_)))))))
        refine Or.inl ?_
        refine Or.inl ?_
        refine Exists.intro (.take 0 (.take 1 (.take 2 (.take 4 (.take 5 (.take 6 (.alt 3 (.alt 7 (.take 8 (.take 9 .done)) .done) .done))))))) (Exists.intro [] (Exists.intro [] (And.intro rfl ?_)))
        refine And.intro trivial ?_
        obtain ⟨q7_3, hq7_3, hF⟩ := bindE hF
        refine Or.inl (And.intro f142_in (callV0 (callI C142 (a.1, r11.2) q7_3 [] true C142_holds hq7_3 rfl rfl ?_)))
        refine (And.intro rfl (And.intro rfl (And.intro (fun _ => rfl) (And.intro rfl (And.intro rfl (And.intro trivial (And.intro trivial ?_)))))))
        refine And.intro trivial ?_
        obtain ⟨q7_7, hq7_7, hF⟩ := bindE hF
        refine Or.inl (And.intro f142_in (callV0 (callI C142 (b.1, r11.2) q7_7 [] true C142_holds hq7_7 rfl rfl ?_)))
        refine (And.intro rfl (And.intro rfl (And.intro (fun _ => rfl) (And.intro rfl (And.intro rfl (And.intro trivial (And.intro trivial ?_)))))))
        refine Or.inl ?_
        refine Or.inl ?_
        obtain ⟨z13, hz13, hF⟩ := bindE hF
        refine loopI (Int × (List Int)) (List Int) (fun x => ⟨[(2, .raw false [(.c (.func (.func 68) #[] #[]))]), (3, .raw false [(.ptr 0 0)]), (4, .raw false [(.ptr 1 0)]), (6, .raw false [(.ptr 2 0)]), (10, .raw false [(.ptr 3 0)]), (12, .raw false [(.osl 4)]), (13, .raw false [(.osl 5)]), (51, .dat (.int .i64) (List.length r12.2.2 : Int)), (52, .dat (.int .i64) x.1)], [(0, .cells [(.d (.sl (.int .i64)) a.1), (.d (.sl (.int .i64)) a.2)]), (1, .cells [(.d (.sl (.int .i64)) b.1), (.d (.sl (.int .i64)) b.2)]), (2, .cells [(.c (.slice none 0 0)), (.c (.slice none 0 0))]), (3, .cells [(.osl 6), (.osl 7)]), (4, .arr 3 (.int .i64) q7_3), (5, .arr 3 (.int .i64) q7_7), (6, .arr 3 (.int .i64) r12.2.1), (7, .arr 23 (.int .i64) x.2)], 8⟩) (fun z => [(2, ⟨[(6, .raw false [(.ptr 0 0)]), (10, .raw false [(.ptr 1 0)])], [(0, .cells [(.c (.slice none 0 0)), (.c (.slice none 0 0))]), (1, .cells [(.osl 2), (.osl 3)]), (2, .arr 3 (.int .i64) r12.2.1), (3, .arr 23 (.int .i64) z)], 4⟩)]) (loopF (fun go x => f120_68_l4 a b r12 q7_3 q7_7 go x.1 x.2)) fuelN ((0 : Int), r12.2.2) z13 (And.intro hz13 (And.intro (Exists.intro [] (Exists.intro [] (Exists.intro [] (Exists.intro [] (Exists.intro [(0, some 0), (1, some 1), (2, some 2), (3, some 6), (4, some 7), (5, some 8), (6, some 4), (7, some 5)] (And.intro rfl (And.intro rfl (And.intro rfl (And.intro (And.intro rfl (And.intro rfl (And.intro rfl (And.intro rfl (And.intro rfl (And.intro rfl (And.intro rfl trivial))))))) (And.intro rfl (And.intro rfl (And.intro rfl (And.intro rfl (And.intro rfl (And.intro rfl (And.intro rfl (And.intro rfl trivial))))))))))))))))) (And.intro (fun _ _ h => loopZ h) (And.intro (fun m => curI (fun v52 => fun l7 z hF => ?_)) ?_))))
        · have hF : f120_68_l4 a b r12 q7_3 q7_7 (loopF (fun go x => f120_68_l4 a b r12 q7_3 q7_7 go x.1 x.2) m) v52 l7 = some z := hF
          unfold f120_68_l4 at hF
          refine Or.inl ?_
          refine Or.inl ?_
          refine condI hF (fun hF => ?_) (fun hF => ?_)
          · refine Or.inl ?_
            refine Or.inl ?_
            refine Exists.intro (.take 0 (.take 1 (.take 2 (.take 3 (.take 4 (.take 5 (.take 6 (.take 7 (.take 8 (.take 9 (.take 10 (.take 11 (.take 12 (.take 13 (.take 14 (.take 15 (.take 16 (.take 17 (.take 18 (.take 19 (.alt 20 (.take 21 (.alt 22 .done .done)) .done))))))))))))))))))))) (Exists.intro [] (Exists.intro [] (And.intro rfl ?_)))
            refine guardI hF (fun hF => ?_)
            refine guardI hF (fun hF => ?_)
            refine guardI hF (fun hF => ?_)
            refine guardI hF (fun hF => ?_)
            refine And.intro trivial ?_
            obtain ⟨q11_20, hq11_20, hF⟩ := bindE hF
            refine Or.inl (And.intro f68_in (callV0 (callI C68 ((rd (0 : Int) a.2 (rd (0 : Int) q7_3 v52)), (rd (0 : Int) b.2 (rd (0 : Int) q7_7 v52))) q11_20 [] false C68_holds hq11_20 rfl rfl ?_)))
            refine (And.intro rfl (And.intro rfl (And.intro (fun h => nomatch h) (And.intro rfl (And.intro rfl (And.intro trivial (And.intro trivial ?_)))))))
            refine guardI hF (fun hF => ?_)
            refine And.intro trivial ?_
            refine Or.inl ?_
            refine Exists.intro ((IntKind.i64.wrap (v52 + (1 : Int))), (List.set l7 (Int.toNat v52) q11_20)) (And.intro hF (Exists.intro [] (Exists.intro [] (Exists.intro [] (Exists.intro [] (Exists.intro [(0, some 0), (1, some 1), (2, some 2), (3, some 3), (4, some 4), (5, some 5), (6, some 6), (7, some 7)] (And.intro rfl (And.intro rfl (And.intro rfl (And.intro (And.intro rfl (And.intro rfl (And.intro rfl (And.intro rfl (And.intro rfl (And.intro rfl (And.intro rfl trivial))))))) (And.intro rfl (And.intro rfl (And.intro rfl (And.intro rfl (And.intro rfl (And.intro rfl (And.intro rfl (And.intro rfl trivial))))))))))))))))))
          · have hz := someE hF
            subst hz
            refine Exists.intro [] (Exists.intro [] (Exists.intro [] (Exists.intro [] (Exists.intro [(0, some 2), (1, some 3), (2, some 6), (3, some 7)] (And.intro rfl (And.intro (And.intro rfl (And.intro rfl trivial)) (And.intro rfl (And.intro rfl (And.intro rfl (And.intro rfl trivial))))))))))
        · refine And.intro ?_ trivial
          refine Or.inl ?_
          refine Or.inl ?_
          have hy := someE hF
          subst hy
          refine And.intro rfl (Exists.intro [] (Exists.intro [] (Exists.intro [] (Exists.intro [] (Exists.intro [(0, some 2), (1, some 3)] (And.intro rfl (And.intro rfl (And.intro (And.intro rfl trivial) (And.intro rfl (And.intro rfl trivial))))))))))
    · dsimp only [sumF] at hF
      refine And.intro ?_ trivial
      have hy := someE hF
      subst hy
      refine And.intro rfl (Exists.intro [] (Exists.intro [] (Exists.intro [] (Exists.intro [] (Exists.intro [(0, none), (1, none)] (And.intro rfl (And.intro rfl (And.intro (And.intro rfl trivial) (And.intro rfl (And.intro rfl trivial))))))))))
theorem C120_68_holds : C120_68.Holds Tryz.prog 120 := holds_of_vc tab_ok mixed (fn := Tryz.f120) (by kernel_rfl) rfl C120_68 (fun x y hF => C120_68_vc x.1 x.2 y hF)
theorem f120_68_in : ∃ fn, Tryz.prog.funcs[120]? = some fn ∧ fn.body.isSome = true ∧ (fn.name == "runtime.NumGoroutine") = false := ⟨Tryz.f120, by kernel_rfl, by kernel_rfl, by kernel_rfl⟩
end Go.Proofs
namespace Go.Proofs
open Go.AM
-- carousel/tens.Sub
def f173 (a : (List Int) × (List Int)) (b : (List Int) × (List Int)) : Option (Int × (List Int) × (List Int)) :=
  bindF (f120_68 (a.1, a.2) (b.1, b.2)) fun r1 =>
  some (r1.1, r1.2.1, r1.2.2)
def C173 : Con where
  X := ((List Int) × (List Int)) × ((List Int) × (List Int))
  Y := Int × (List Int) × (List Int)
  e := 0
  args x := [.dat (.p (.sl (.int .i64)) (.sl (.int .i64))) x.1, .dat (.p (.sl (.int .i64)) (.sl (.int .i64))) x.2]
  hin x := []
  F x := f173 x.1 x.2
  ret y := [.raw true [(.osl 0), (.osl 1)], .dat (.int .i64) y.1]
  hout y := [(0, .arr 3 (.int .i64) y.2.1), (1, .arr 23 (.int .i64) y.2.2)]
  nout := 2
theorem C173_vc (a : (List Int) × (List Int)) (b : (List Int) × (List Int)) (y : Int × (List Int) × (List Int)) (hF : f173 a b = some y) : vc Tryz.prog tab Tryz.f173.ntmps 0 (match Tryz.f173.body with | some c => c | none => .skip) (retK tab C173 Tryz.f173.results.toList y) (C173.shIn (a, b)).st := by
  unfold f173 at hF
  refine Or.inl ?_
  refine Or.inl ?_
  obtain ⟨r1, hr1, hF⟩ := bindE hF
  refine Or.inl (And.intro f120_68_in (callV0 (callI C120_68 ((a.1, a.2), (b.1, b.2)) r1 [] false C120_68_holds hr1 rfl rfl ?_)))
  refine (And.intro rfl (And.intro rfl (And.intro rfl (And.intro rfl (And.intro (fun h => nomatch h) (And.intro rfl (And.intro rfl (And.intro (And.intro rfl trivial) (And.intro trivial ?_)))))))))
  refine Or.inl ?_
  have hy := someE hF
  subst hy
  refine And.intro rfl (Exists.intro [] (Exists.intro [] (Exists.intro [] (Exists.intro [] (Exists.intro [(0, some 3), (1, some 4)] (And.intro rfl (And.intro rfl (And.intro (And.intro rfl trivial) (And.intro rfl (And.intro rfl trivial))))))))))
theorem C173_holds : C173.Holds Tryz.prog 173 := holds_of_vc tab_ok mixed (fn := Tryz.f173) (by kernel_rfl) rfl C173 (fun x y hF => C173_vc x.1 x.2 y hF)
theorem f173_in : ∃ fn, Tryz.prog.funcs[173]? = some fn ∧ fn.body.isSome = true ∧ (fn.name == "runtime.NumGoroutine") = false := ⟨Tryz.f173, by kernel_rfl, by kernel_rfl, by kernel_rfl⟩
end Go.Proofs
namespace Go.Proofs
open Go.AM
-- carousel/fix.size
def f96 (v : Int) : Option Int :=
  bif (decide (v < (0 : Int))) then
    some (IntKind.u64.wrap (0 - (IntKind.u64.wrap v)))
  else
    some (IntKind.u64.wrap v)
def C96 : Con where
  X := Int
  Y := Int
  e := 0
  args x := [.dat (.int .i64) x]
  hin x := []
  F x := f96 x
  ret y := [.dat (.int .u64) y]
  hout y := []
  nout := 0
theorem C96_vc (v : Int) (y : Int) (hF : f96 v = some y) : vc Tryz.prog tab Tryz.f96.ntmps 0 (match Tryz.f96.body with | some c => c | none => .skip) (retK tab C96 Tryz.f96.results.toList y) (C96.shIn v).st := by
  unfold f96 at hF
  refine Or.inl ?_
  refine Or.inl ?_
  refine Or.inl ?_
  refine condI hF (fun hF => ?_) (fun hF => ?_)
  · refine Or.inl ?_
    have hy := someE hF
    subst hy
    refine And.intro rfl (Exists.intro [] (Exists.intro [] (Exists.intro [] (Exists.intro [] (Exists.intro [] (And.intro rfl (And.intro rfl (And.intro trivial trivial))))))))
  · refine Or.inl ?_
    have hy := someE hF
    subst hy
    refine And.intro rfl (Exists.intro [] (Exists.intro [] (Exists.intro [] (Exists.intro [] (Exists.intro [] (And.intro rfl (And.intro rfl (And.intro trivial trivial))))))))
theorem C96_holds : C96.Holds Tryz.prog 96 := holds_of_vc tab_ok mixed (fn := Tryz.f96) (by kernel_rfl) rfl C96 (fun x y hF => C96_vc x y hF)
theorem f96_in : ∃ fn, Tryz.prog.funcs[96]? = some fn ∧ fn.body.isSome = true ∧ (fn.name == "runtime.NumGoroutine") = false := ⟨Tryz.f96, by kernel_rfl, by kernel_rfl, by kernel_rfl⟩
end Go.Proofs
namespace Go.Proofs
open Go.AM
-- carousel/fix.held
def f97_j1 (hi : Int) (lo : Int) (below : Bool) : Option Bool :=
  bif below then
    bif (decide (hi > (0 : Int))) then
      some true
    else
      some (decide (lo ≥ (9223372036854775808 : Int)))
  else
    some false
def f97 (hi : Int) (lo : Int) (below : Bool) : Option Int :=
  bindF (f97_j1 hi lo below) fun z1 =>
  bif z1 then
    some (-9223372036854775808 : Int)
  else
    bif below then
      some (IntKind.i64.wrap (0 - (IntKind.i64.wrap lo)))
    else
      bif (decide (hi > (0 : Int))) then
        some (9223372036854775807 : Int)
      else
        bif (decide (lo ≥ (9223372036854775808 : Int))) then
          some (9223372036854775807 : Int)
        else
          some (IntKind.i64.wrap lo)
def C97 : Con where
  X := Int × Int × Bool
  Y := Int
  e := 0
  args x := [.dat (.int .u64) x.1, .dat (.int .u64) x.2.1, .dat .bool x.2.2]
  hin x := []
  F x := f97 x.1 x.2.1 x.2.2
  ret y := [.dat (.int .i64) y]
  hout y := []
  nout := 0
theorem C97_vc (hi : Int) (lo : Int) (below : Bool) (y : Int) (hF : f97 hi lo below = some y) : vc Tryz.prog tab Tryz.f97.ntmps 0 (match Tryz.f97.body with | some c => c | none => .skip) (retK tab C97 Tryz.f97.results.toList y) (C97.shIn (hi, lo, below)).st := by
  unfold f97 at hF
  refine Or.inl ?_
  refine Or.inl ?_
  obtain ⟨z1, hz1, hF⟩ := bindE hF
  refine Or.inr ⟨[(0, ⟨[(0, .dat (.int .u64) hi), (1, .dat (.int .u64) lo), (2, .dat .bool below), (7, .dat .bool z1)], [], 0⟩)], ?_, ?_⟩
  · have hF := hz1
    clear hz1
    unfold f97_j1 at hF
    refine condI hF (fun hF => ?_) (fun hF => ?_)
    · refine gdYT ?_
      refine gdYT ?_
      refine condN hF (fun hF => ?_) (fun hF => ?_)
      · refine gdYF ?_
        refine gdYT ?_
        refine condF ?_
        refine condT ?_
        have hz := someE hF
        subst hz
        refine Exists.intro [] (Exists.intro [] (Exists.intro [] (Exists.intro [] (Exists.intro [] (And.intro rfl (And.intro rfl (And.intro rfl (And.intro rfl (And.intro rfl (And.intro trivial trivial))))))))))
      · refine gdNF ?_
        refine gdYT ?_
        refine condT ?_
        refine condT ?_
        have hz := someE hF
        subst hz
        refine Exists.intro [] (Exists.intro [] (Exists.intro [] (Exists.intro [] (Exists.intro [] (And.intro rfl (And.intro rfl (And.intro rfl (And.intro rfl (And.intro rfl (And.intro trivial trivial))))))))))
    · refine gdNT ?_
      refine gdNT ?_
      refine gdNT ?_
      refine condF ?_
      have hz := someE hF
      subst hz
      refine Exists.intro [] (Exists.intro [] (Exists.intro [] (Exists.intro [] (Exists.intro [] (And.intro rfl (And.intro rfl (And.intro rfl (And.intro rfl (And.intro rfl (And.intro trivial trivial))))))))))
  · refine And.intro ?_ trivial
    refine condI hF (fun hF => ?_) (fun hF => ?_)
    · refine Or.inl ?_
      have hy := someE hF
      subst hy
      refine And.intro rfl (Exists.intro [] (Exists.intro [] (Exists.intro [] (Exists.intro [] (Exists.intro [] (And.intro rfl (And.intro rfl (And.intro trivial trivial))))))))
    · refine Or.inl ?_
      refine condI hF (fun hF => ?_) (fun hF => ?_)
      · refine Or.inl ?_
        have hy := someE hF
        subst hy
        refine And.intro rfl (Exists.intro [] (Exists.intro [] (Exists.intro [] (Exists.intro [] (Exists.intro [] (And.intro rfl (And.intro rfl (And.intro trivial trivial))))))))
      · refine Or.inl ?_
        refine condN hF (fun hF => ?_) (fun hF => ?_)
        · refine gdYF ?_
          refine condF ?_
          refine condI hF (fun hF => ?_) (fun hF => ?_)
          · refine Or.inl ?_
            have hy := someE hF
            subst hy
            refine And.intro rfl (Exists.intro [] (Exists.intro [] (Exists.intro [] (Exists.intro [] (Exists.intro [] (And.intro rfl (And.intro rfl (And.intro trivial trivial))))))))
          · refine Or.inl ?_
            have hy := someE hF
            subst hy
            refine And.intro rfl (Exists.intro [] (Exists.intro [] (Exists.intro [] (Exists.intro [] (Exists.intro [] (And.intro rfl (And.intro rfl (And.intro trivial trivial))))))))
        · refine gdNF ?_
          refine condT ?_
          refine condT ?_
          refine Or.inl ?_
          have hy := someE hF
          subst hy
          refine And.intro rfl (Exists.intro [] (Exists.intro [] (Exists.intro [] (Exists.intro [] (Exists.intro [] (And.intro rfl (And.intro rfl (And.intro trivial trivial))))))))
theorem C97_holds : C97.Holds Tryz.prog 97 := holds_of_vc tab_ok mixed (fn := Tryz.f97) (by kernel_rfl) rfl C97 (fun x y hF => C97_vc x.1 x.2.1 x.2.2 y hF)
theorem f97_in : ∃ fn, Tryz.prog.funcs[97]? = some fn ∧ fn.body.isSome = true ∧ (fn.name == "runtime.NumGoroutine") = false := ⟨Tryz.f97, by kernel_rfl, by kernel_rfl, by kernel_rfl⟩
end Go.Proofs
namespace Go.Proofs
open Go.AM
-- carousel/fix.Mul
def f66_j3 (r3 : Int × Int) : Option Bool :=
  bif (decide ((bitsOf IntKind.u64 (fun p q => p &&& q) r3.2 (4294967295 : Int)) > (2147483648 : Int))) then
    some true
  else
    bif ((bitsOf IntKind.u64 (fun p q => p &&& q) r3.2 (4294967295 : Int)) == (2147483648 : Int)) then
      some ((bitsOf IntKind.u64 (fun p q => p &&& q) (bitsOf IntKind.u64 (fun p q => p ||| q) (IntKind.u64.wrap (r3.1 * 2 ^ min (Int.toNat (32 : Int)) (IntKind.bits IntKind.u64))) (Int.fdiv r3.2 (2 ^ min (Int.toNat (32 : Int)) (IntKind.bits IntKind.u64)))) (1 : Int)) == (1 : Int))
    else
      some false
def f66_j2 (r3 : Int × Int) : Option (Int × Int) :=
  bindF (f66_j3 r3) fun z7 =>
  bif z7 then
    bindF (add64 (bitsOf IntKind.u64 (fun p q => p ||| q) (IntKind.u64.wrap (r3.1 * 2 ^ min (Int.toNat (32 : Int)) (IntKind.bits IntKind.u64))) (Int.fdiv r3.2 (2 ^ min (Int.toNat (32 : Int)) (IntKind.bits IntKind.u64)))) (1 : Int) (0 : Int)) fun r8 =>
    some (r8.1, (IntKind.u64.wrap ((Int.fdiv r3.1 (2 ^ min (Int.toNat (32 : Int)) (IntKind.bits IntKind.u64))) + r8.2)))
  else
    some ((bitsOf IntKind.u64 (fun p q => p ||| q) (IntKind.u64.wrap (r3.1 * 2 ^ min (Int.toNat (32 : Int)) (IntKind.bits IntKind.u64))) (Int.fdiv r3.2 (2 ^ min (Int.toNat (32 : Int)) (IntKind.bits IntKind.u64)))), (Int.fdiv r3.1 (2 ^ min (Int.toNat (32 : Int)) (IntKind.bits IntKind.u64))))
def f66 (a : Int) (b : Int) : Option Int :=
  bindF (f96 a) fun r1 =>
  bindF (f96 b) fun r2 =>
  bindF (f95 r1 r2) fun r3 =>
  bindF (f66_j2 r3) fun z6 =>
  bindF (f97 z6.2 z6.1 (!((decide (a < (0 : Int))) == (decide (b < (0 : Int)))))) fun r9 =>
  some r9
def C66 : Con where
  X := Int × Int
  Y := Int
  e := 0
  args x := [.dat (.int .i64) x.1, .dat (.int .i64) x.2]
  hin x := []
  F x := f66 x.1 x.2
  ret y := [.dat (.int .i64) y]
  hout y := []
  nout := 0
theorem C66_vc (a : Int) (b : Int) (y : Int) (hF : f66 a b = some y) : vc Tryz.prog tab Tryz.f66.ntmps 0 (match Tryz.f66.body with | some c => c | none => .skip) (retK tab C66 Tryz.f66.results.toList y) (C66.shIn (a, b)).st := by
  unfold f66 at hF
  refine Or.inl ?_
  refine Or.inl ?_
  obtain ⟨r1, hr1, hF⟩ := bindE hF
  refine Or.inl (And.intro f96_in (callV0 (callI C96 a r1 [] false C96_holds hr1 rfl rfl ?_)))
  refine (And.intro rfl (And.intro (fun h => nomatch h) (And.intro rfl (And.intro rfl (And.intro trivial (And.intro trivial ?_))))))
  obtain ⟨r2, hr2, hF⟩ := bindE hF
  refine Or.inl (And.intro f96_in (callV0 (callI C96 b r2 [] false C96_holds hr2 rfl rfl ?_)))
  refine (And.intro rfl (And.intro (fun h => nomatch h) (And.intro rfl (And.intro rfl (And.intro trivial (And.intro trivial ?_))))))
  obtain ⟨r3, hr3, hF⟩ := bindE hF
  refine Or.inl (And.intro f95_in (callV0 (callI C95 (r1, r2) r3 [] false C95_holds hr3 rfl rfl ?_)))
  refine (And.intro rfl (And.intro rfl (And.intro (fun h => nomatch h) (And.intro rfl (And.intro rfl (And.intro trivial (And.intro trivial ?_)))))))
  refine Or.inl ?_
  refine Or.inl ?_
  refine And.intro (by decide) ?_
  refine And.intro (by decide) ?_
  refine Or.inl ?_
  refine And.intro (by decide) ?_
  obtain ⟨z6, hz6, hF⟩ := bindE hF
  refine Or.inr ⟨[(0, ⟨[(0, .dat (.int .i64) a), (1, .dat (.int .i64) b), (8, .dat (.int .u64) z6.1), (9, .dat (.int .u64) z6.2)], [], 0⟩)], ?_, ?_⟩
  · have hF := hz6
    clear hz6
    unfold f66_j2 at hF
    obtain ⟨z7, hz7, hF⟩ := bindE hF
    refine Or.inr ⟨[(0, ⟨[(0, .dat (.int .i64) a), (1, .dat (.int .i64) b), (8, .dat (.int .u64) (bitsOf IntKind.u64 (fun p q => p ||| q) (IntKind.u64.wrap (r3.1 * 2 ^ min (Int.toNat (32 : Int)) (IntKind.bits IntKind.u64))) (Int.fdiv r3.2 (2 ^ min (Int.toNat (32 : Int)) (IntKind.bits IntKind.u64))))), (9, .dat (.int .u64) (Int.fdiv r3.1 (2 ^ min (Int.toNat (32 : Int)) (IntKind.bits IntKind.u64)))), (38, .dat .bool z7)], [], 0⟩)], ?_, ?_⟩
    · have hF := hz7
      clear hz7
      unfold f66_j3 at hF
      refine condN hF (fun hF => ?_) (fun hF => ?_)
      · refine gdYF ?_
        refine gdYF ?_
        refine condI hF (fun hF => ?_) (fun hF => ?_)
        · refine gdYT ?_
          refine gdYT ?_
          refine gdYF ?_
          refine condT ?_
          refine condF ?_
          have hz := someE hF
          subst hz
          refine Exists.intro [] (Exists.intro [] (Exists.intro [] (Exists.intro [] (Exists.intro [] (And.intro rfl (And.intro rfl (And.intro rfl (And.intro rfl (And.intro rfl (And.intro rfl (And.intro trivial trivial)))))))))))
        · refine gdNT ?_
          refine gdNT ?_
          refine gdYF ?_
          refine condF ?_
          refine condF ?_
          have hz := someE hF
          subst hz
          refine Exists.intro [] (Exists.intro [] (Exists.intro [] (Exists.intro [] (Exists.intro [] (And.intro rfl (And.intro rfl (And.intro rfl (And.intro rfl (And.intro rfl (And.intro rfl (And.intro trivial trivial)))))))))))
      · refine gdNF ?_
        refine gdNF ?_
        refine gdNF ?_
        refine condT ?_
        have hz := someE hF
        subst hz
        refine Exists.intro [] (Exists.intro [] (Exists.intro [] (Exists.intro [] (Exists.intro [] (And.intro rfl (And.intro rfl (And.intro rfl (And.intro rfl (And.intro rfl (And.intro rfl (And.intro trivial trivial)))))))))))
    · refine And.intro ?_ trivial
      refine condI hF (fun hF => ?_) (fun hF => ?_)
      · refine Or.inl ?_
        refine Or.inl ?_
        obtain ⟨r8, hr8, hF⟩ := bindE hF
        refine Or.inr ⟨ext3 add64, [r8.1, r8.2], add64_ok, And.intro (ext3I hr8) ?_⟩
        have hz := someE hF
        subst hz
        refine Exists.intro [] (Exists.intro [] (Exists.intro [] (Exists.intro [] (Exists.intro [] (And.intro rfl (And.intro rfl (And.intro rfl (And.intro rfl (And.intro rfl (And.intro trivial trivial))))))))))
      · have hz := someE hF
        subst hz
        refine Exists.intro [] (Exists.intro [] (Exists.intro [] (Exists.intro [] (Exists.intro [] (And.intro rfl (And.intro rfl (And.intro rfl (And.intro rfl (And.intro rfl (And.intro trivial trivial))))))))))
  · refine And.intro ?_ trivial
    refine Or.inl ?_
    obtain ⟨r9, hr9, hF⟩ := bindE hF
    refine Or.inl (And.intro f97_in (callV0 (callI C97 (z6.2, z6.1, (!((decide (a < (0 : Int))) == (decide (b < (0 : Int)))))) r9 [] false C97_holds hr9 rfl rfl ?_)))
    refine (And.intro rfl (And.intro rfl (And.intro rfl (And.intro (fun h => nomatch h) (And.intro rfl (And.intro rfl (And.intro trivial (And.intro trivial ?_))))))))
    have hy := someE hF
    subst hy
    refine And.intro rfl (Exists.intro [] (Exists.intro [] (Exists.intro [] (Exists.intro [] (Exists.intro [] (And.intro rfl (And.intro rfl (And.intro trivial trivial))))))))
theorem C66_holds : C66.Holds Tryz.prog 66 := holds_of_vc tab_ok mixed (fn := Tryz.f66) (by kernel_rfl) rfl C66 (fun x y hF => C66_vc x.1 x.2 y hF)
theorem f66_in : ∃ fn, Tryz.prog.funcs[66]? = some fn ∧ fn.body.isSome = true ∧ (fn.name == "runtime.NumGoroutine") = false := ⟨Tryz.f66, by kernel_rfl, by kernel_rfl, by kernel_rfl⟩
end Go.Proofs
namespace Go.Proofs
open Go.AM
-- carousel/tens.both
def f120_66_j3 (a : (List Int) × (List Int)) (b : (List Int) × (List Int)) : Option Bool :=
  bindF (f86 (a.1, a.2)) fun r9 =>
  bif (!r9) then
    some true
  else
    bindF (f86 (b.1, b.2)) fun r10 =>
    some (!r10)
def f120_66_j2 (a : (List Int) × (List Int)) (b : (List Int) × (List Int)) : Option (Sum Unit Unit) :=
  bindF (f120_66_j3 a b) fun z8 =>
  bif z8 then
    some (Sum.inr ())
  else
    some (Sum.inl ())
def f120_66_l4 (a : (List Int) × (List Int)) (b : (List Int) × (List Int)) (r12 : Int × (List Int) × (List Int)) (q7_3 : List Int) (q7_7 : List Int) (go : (Int × (List Int)) → Option (List Int)) (v52 : Int) (l7 : List Int) : Option (List Int) :=
  bif (decide (v52 < (List.length r12.2.2 : Int))) then
    guardF (0 ≤ v52 ∧ v52 < (List.length q7_3 : Int)) <|
    guardF (0 ≤ (rd (0 : Int) q7_3 v52) ∧ (rd (0 : Int) q7_3 v52) < (List.length a.2 : Int)) <|
    guardF (0 ≤ v52 ∧ v52 < (List.length q7_7 : Int)) <|
    guardF (0 ≤ (rd (0 : Int) q7_7 v52) ∧ (rd (0 : Int) q7_7 v52) < (List.length b.2 : Int)) <|
    bindF (f66 (rd (0 : Int) a.2 (rd (0 : Int) q7_3 v52)) (rd (0 : Int) b.2 (rd (0 : Int) q7_7 v52))) fun q11_20 =>
    guardF (0 ≤ v52 ∧ v52 < (List.length l7 : Int)) <|
    go ((IntKind.i64.wrap (v52 + (1 : Int))), (List.set l7 (Int.toNat v52) q11_20))
  else
    some l7
def f120_66 (a : (List Int) × (List Int)) (b : (List Int) × (List Int)) : Option (Int × (List Int) × (List Int)) :=
  bindF (f120_66_j2 a b) fun z5 =>
  sumF z5 (fun z5a =>
    bindF (f141 a.1 b.1) fun r11 =>
    bif (r11.1 != (0 : Int)) then
      some (r11.1, [], [])
    else
      bindF (f52 r11.2 (0 : Int)) fun r12 =>
      bindF (f142 a.1 r11.2) fun q7_3 =>
      bindF (f142 b.1 r11.2) fun q7_7 =>
      bindF (loopF (fun go x => f120_66_l4 a b r12 q7_3 q7_7 go x.1 x.2) fuelN ((0 : Int), r12.2.2)) fun z13 =>
      some ((0 : Int), r12.2.1, z13)) (fun z5b =>
    some ((1 : Int), [], []))
def C120_66 : Con where
  X := ((List Int) × (List Int)) × ((List Int) × (List Int))
  Y := Int × (List Int) × (List Int)
  e := 0
  args x := [.dat (.p (.sl (.int .i64)) (.sl (.int .i64))) x.1, .dat (.p (.sl (.int .i64)) (.sl (.int .i64))) x.2, .raw false [(.c (.func (.func 66) #[] #[]))]]
  hin x := []
  F x := f120_66 x.1 x.2
  ret y := [.raw true [(.osl 0), (.osl 1)], .dat (.int .i64) y.1]
  hout y := [(0, .arr 3 (.int .i64) y.2.1), (1, .arr 23 (.int .i64) y.2.2)]
  nout := 2
theorem C120_66_vc (a : (List Int) × (List Int)) (b : (List Int) × (List Int)) (y : Int × (List Int) × (List Int)) (hF : f120_66 a b = some y) : vc Tryz.prog tab Tryz.f120.ntmps 0 (match Tryz.f120.body with | some c => c | none => .skip) (retK tab C120_66 Tryz.f120.results.toList y) (C120_66.shIn (a, b)).st := by
  unfold f120_66 at hF
  refine Or.inl ?_
  obtain ⟨z5, hz5, hF⟩ := bindE hF
  refine Or.inr ⟨Sum.elim (fun z5a => [(0, ⟨[(2, .raw false [(.c (.func (.func 66) #[] #[]))]), (3, .raw false [(.ptr 0 0)]), (4, .raw false [(.ptr 1 0)]), (6, .raw false [(.ptr 2 0)])], [(0, .cells [(.d (.sl (.int .i64)) a.1), (.d (.sl (.int .i64)) a.2)]), (1, .cells [(.d (.sl (.int .i64)) b.1), (.d (.sl (.int .i64)) b.2)]), (2, .cells [(.c (.slice none 0 0)), (.c (.slice none 0 0))])], 3⟩)]) (fun z5b => [(1, ⟨[(6, .raw false [(.ptr 0 0)]), (7, .dat (.int .i64) (1 : Int))], [(0, .cells [(.c (.slice none 0 0)), (.c (.slice none 0 0))])], 1⟩)]) z5, ?_, ?_⟩
  · have hF := hz5
    clear hz5
    unfold f120_66_j2 at hF
    obtain ⟨z8, hz8, hF⟩ := bindE hF
    refine Or.inr ⟨[(0, ⟨[(2, .raw false [(.c (.func (.func 66) #[] #[]))]), (3, .raw false [(.ptr 0 0)]), (4, .raw false [(.ptr 1 0)]), (6, .raw false [(.ptr 2 0)]), (22, .dat .bool z8)], [(0, .cells [(.d (.sl (.int .i64)) a.1), (.d (.sl (.int .i64)) a.2)]), (1, .cells [(.d (.sl (.int .i64)) b.1), (.d (.sl (.int .i64)) b.2)]), (2, .cells [(.c (.slice none 0 0)), (.c (.slice none 0 0))])], 3⟩)], ?_, ?_⟩
    · have hF := hz8
      clear hz8
      unfold f120_66_j3 at hF
      obtain ⟨r9, hr9, hF⟩ := bindE hF
      refine Or.inl (And.intro f86_in (callV0 (callI C86 (a.1, a.2) r9 [] false C86_holds hr9 rfl rfl ?_)))
      refine (And.intro rfl (And.intro rfl (And.intro (fun h => nomatch h) (And.intro rfl (And.intro rfl (And.intro trivial (And.intro trivial ?_)))))))
      refine condN hF (fun hF => ?_) (fun hF => ?_)
      · refine gdYF ?_
        obtain ⟨r10, hr10, hF⟩ := bindE hF
        refine Or.inl (And.intro f86_in (callV0 (callI C86 (b.1, b.2) r10 [] false C86_holds hr10 rfl rfl ?_)))
        refine (And.intro rfl (And.intro rfl (And.intro (fun h => nomatch h) (And.intro rfl (And.intro rfl (And.intro trivial (And.intro trivial ?_)))))))
        refine gdYF ?_
        refine condF ?_
        have hz := someE hF
        subst hz
        refine Exists.intro [] (Exists.intro [] (Exists.intro [] (Exists.intro [] (Exists.intro [(0, some 0), (1, some 1), (2, some 2)] (And.intro rfl (And.intro rfl (And.intro (And.intro rfl (And.intro rfl (And.intro rfl (And.intro rfl trivial)))) (And.intro rfl (And.intro rfl (And.intro rfl trivial))))))))))
      · refine gdNF ?_
        refine gdNF ?_
        refine condT ?_
        have hz := someE hF
        subst hz
        refine Exists.intro [] (Exists.intro [] (Exists.intro [] (Exists.intro [] (Exists.intro [(0, some 0), (1, some 1), (2, some 2)] (And.intro rfl (And.intro rfl (And.intro (And.intro rfl (And.intro rfl (And.intro rfl (And.intro rfl trivial)))) (And.intro rfl (And.intro rfl (And.intro rfl trivial))))))))))
    · refine And.intro ?_ trivial
      refine condI hF (fun hF => ?_) (fun hF => ?_)
      · refine Or.inl ?_
        refine Or.inl ?_
        have hz := someE hF
        subst hz
        refine Exists.intro [] (Exists.intro [] (Exists.intro [] (Exists.intro [] (Exists.intro [(0, some 2)] (And.intro rfl (And.intro rfl (And.intro (And.intro rfl trivial) (And.intro rfl trivial))))))))
      · have hz := someE hF
        subst hz
        refine Exists.intro [] (Exists.intro [] (Exists.intro [] (Exists.intro [] (Exists.intro [(0, some 0), (1, some 1), (2, some 2)] (And.intro rfl (And.intro (And.intro rfl (And.intro rfl (And.intro rfl (And.intro rfl trivial)))) (And.intro rfl (And.intro rfl (And.intro rfl trivial)))))))))
  · rcases z5 with z5a | z5b
    · dsimp only [sumF] at hF
      refine And.intro ?_ trivial
      refine Or.inl ?_
      obtain ⟨r11, hr11, hF⟩ := bindE hF
      refine Or.inl (And.intro f141_in (callV0 (callI C141 (a.1, b.1) r11 [] false C141_holds hr11 rfl rfl ?_)))
      refine (And.intro rfl (And.intro rfl (And.intro (fun h => nomatch h) (And.intro rfl (And.intro rfl (And.intro trivial (And.intro trivial ?_)))))))
      refine Or.inl ?_
      refine Or.inl ?_
      refine condI hF (fun hF => ?_) (fun hF => ?_)
      · refine Or.inl ?_
        refine Or.inl ?_
        have hy := someE hF
        subst hy
        refine And.intro rfl (Exists.intro [] (Exists.intro [] (Exists.intro [] (Exists.intro [] (Exists.intro [(0, none), (1, none)] (And.intro rfl (And.intro rfl (And.intro (And.intro rfl trivial) (And.intro rfl (And.intro rfl trivial))))))))))
      · refine Or.inl ?_
        obtain ⟨r12, hr12, hF⟩ := bindE hF
        refine Or.inl (And.intro f52_in (callV0 (callI C52 (r11.2, (0 : Int)) r12 [] true C52_holds hr12 rfl rfl ?_)))
        refine (And.intro rfl (And.intro rfl (And.intro (fun _ => rfl) (And.intro rfl (And.intro rfl (And.intro trivial (And.intro trivial ?_)))))))
        refine Or.inl ?_
        refine Or.inl ?_
        refine Exists.intro (.take 0 (.take 1 (.take 2 (.take 4 (.take 5 (.take 6 (.alt 3 (.alt 7 (.take 8 (.take 9 .done)) .done) .done))))))) (Exists.intro [] (Exists.intro [] (And.intro rfl ?_)))
        refine And.intro trivial ?_
        obtain ⟨q7_3, hq7_3, hF⟩ := bindE hF
        refine Or.inl (And.intro f142_in (callV0 (callI C142 (a.1, r11.2) q7_3 [] true C142_holds hq7_3 rfl rfl ?_)))
        refine (And.intro rfl (And.intro rfl (And.intro (fun _ => rfl) (And.intro rfl (And.intro rfl (And.intro trivial (And.intro trivial ?_)))))))
        refine And.intro trivial ?_
        obtain ⟨q7_7, hq7_7, hF⟩ := bindE hF
        refine Or.inl (And.intro f142_in (callV0 (callI C142 (b.1, r11.2) q7_7 [] true C142_holds hq7_7 rfl rfl ?_)))
        refine (And.intro rfl (And.intro rfl (And.intro (fun _ => rfl) (And.intro rfl (And.intro rfl (And.intro trivial (And.intro trivial ?_)))))))
        refine Or.inl ?_
        refine Or.inl ?_
        obtain ⟨z13, hz13, hF⟩ := bindE hF
        refine loopI (Int × (List Int)) (List Int) (fun x => ⟨[(2, .raw false [(.c (.func (.func 66) #[] #[]))]), (3, .raw false [(.ptr 0 0)]), (4, .raw false [(.ptr 1 0)]), (6, .raw false [(.ptr 2 0)]), (10, .raw false [(.ptr 3 0)]), (12, .raw false [(.osl 4)]), (13, .raw false [(.osl 5)]), (51, .dat (.int .i64) (List.length r12.2.2 : Int)), (52, .dat (.int .i64) x.1)], [(0, .cells [(.d (.sl (.int .i64)) a.1), (.d (.sl (.int .i64)) a.2)]), (1, .cells [(.d (.sl (.int .i64)) b.1), (.d (.sl (.int .i64)) b.2)]), (2, .cells [(.c (.slice none 0 0)), (.c (.slice none 0 0))]), (3, .cells [(.osl 6), (.osl 7)]), (4, .arr 3 (.int .i64) q7_3), (5, .arr 3 (.int .i64) q7_7), (6, .arr 3 (.int .i64) r12.2.1), (7, .arr 23 (.int .i64) x.2)], 8⟩) (fun z => [(2, ⟨[(6, .raw false [(.ptr 0 0)]), (10, .raw false [(.ptr 1 0)])], [(0, .cells [(.c (.slice none 0 0)), (.c (.slice none 0 0))]), (1, .cells [(.osl 2), (.osl 3)]), (2, .arr 3 (.int .i64) r12.2.1), (3, .arr 23 (.int .i64) z)], 4⟩)]) (loopF (fun go x => f120_66_l4 a b r12 q7_3 q7_7 go x.1 x.2)) fuelN ((0 : Int), r12.2.2) z13 (And.intro hz13 (And.intro (Exists.intro [] (Exists.intro [] (Exists.intro [] (Exists.intro [] (Exists.intro [(0, some 0), (1, some 1), (2, some 2), (3, some 6), (4, some 7), (5, some 8), (6, some 4), (7, some 5)] (And.intro rfl (And.intro rfl (And.intro rfl (And.intro (And.intro rfl (And.intro rfl (And.intro rfl (And.intro rfl (And.intro rfl (And.intro rfl (And.intro rfl trivial))))))) (And.intro rfl (And.intro rfl (And.intro rfl (And.intro rfl (And.intro rfl (And.intro rfl (And.intro rfl (And.intro rfl trivial))))))))))))))))) (And.intro (fun _ _ h => loopZ h) (And.intro (fun m => curI (fun v52 => fun l7 z hF => ?_)) ?_))))
        · have hF : f120_66_l4 a b r12 q7_3 q7_7 (loopF (fun go x => f120_66_l4 a b r12 q7_3 q7_7 go x.1 x.2) m) v52 l7 = some z := hF
          unfold f120_66_l4 at hF
          refine Or.inl ?_
          refine Or.inl ?_
          refine condI hF (fun hF => ?_) (fun hF => ?_)
          · refine Or.inl ?_
            refine Or.inl ?_
            refine Exists.intro (.take 0 (.take 1 (.take 2 (.take 3 (.take 4 (.take 5 (.take 6 (.take 7 (.take 8 (.take 9 (.take 10 (.take 11 (.take 12 (.take 13 (.take 14 (.take 15 (.take 16 (.take 17 (.take 18 (.take 19 (.alt 20 (.take 21 (.alt 22 .done .done)) .done))))))))))))))))))))) (Exists.intro [] (Exists.intro [] (And.intro rfl ?_)))
            refine guardI hF (fun hF => ?_)
            refine guardI hF (fun hF => ?_)
            refine guardI hF (fun hF => ?_)
            refine guardI hF (fun hF => ?_)
            refine And.intro trivial ?_
            obtain ⟨q11_20, hq11_20, hF⟩ := bindE hF
            refine Or.inl (And.intro f66_in (callV0 (callI C66 ((rd (0 : Int) a.2 (rd (0 : Int) q7_3 v52)), (rd (0 : Int) b.2 (rd (0 : Int) q7_7 v52))) q11_20 [] false C66_holds hq11_20 rfl rfl ?_)))
            refine (And.intro rfl (And.intro rfl (And.intro (fun h => nomatch h) (And.intro rfl (And.intro rfl (And.intro trivial (And.intro trivial ?_)))))))
            refine guardI hF (fun hF => ?_)
            refine And.intro trivial ?_
            refine Or.inl ?_
            refine Exists.intro ((IntKind.i64.wrap (v52 + (1 : Int))), (List.set l7 (Int.toNat v52) q11_20)) (And.intro hF (Exists.intro [] (Exists.intro [] (Exists.intro [] (Exists.intro [] (Exists.intro [(0, some 0), (1, some 1), (2, some 2), (3, some 3), (4, some 4), (5, some 5), (6, some 6), (7, some 7)] (And.intro rfl (And.intro rfl (And.intro rfl (And.intro (And.intro rfl (And.intro rfl (And.intro rfl (And.intro rfl (And.intro rfl (And.intro rfl (And.intro rfl trivial))))))) (And.intro rfl (And.intro rfl (And.intro rfl (And.intro rfl (And.intro rfl (And.intro rfl (And.intro rfl (And.intro rfl trivial))))))))))))))))))
          · have hz := someE hF
            subst hz
            refine Exists.intro [] (Exists.intro [] (Exists.intro [] (Exists.intro [] (Exists.intro [(0, some 2), (1, some 3), (2, some 6), (3, some 7)] (And.intro rfl (And.intro (And.intro rfl (And.intro rfl trivial)) (And.intro rfl (And.intro rfl (And.intro rfl (And.intro rfl trivial))))))))))
        · refine And.intro ?_ trivial
          refine Or.inl ?_
          refine Or.inl ?_
          have hy := someE hF
          subst hy
          refine And.intro rfl (Exists.intro [] (Exists.intro [] (Exists.intro [] (Exists.intro [] (Exists.intro [(0, some 2), (1, some 3)] (And.intro rfl (And.intro rfl (And.intro (And.intro rfl trivial) (And.intro rfl (And.intro rfl trivial))))))))))
    · dsimp only [sumF] at hF
      refine And.intro ?_ trivial
      have hy := someE hF
      subst hy
      refine And.intro rfl (Exists.intro [] (Exists.intro [] (Exists.intro [] (Exists.intro [] (Exists.intro [(0, none), (1, none)] (And.intro rfl (And.intro rfl (And.intro (And.intro rfl trivial) (And.intro rfl (And.intro rfl trivial))))))))))
theorem C120_66_holds : C120_66.Holds Tryz.prog 120 := holds_of_vc tab_ok mixed (fn := Tryz.f120) (by kernel_rfl) rfl C120_66 (fun x y hF => C120_66_vc x.1 x.2 y hF)
theorem f120_66_in : ∃ fn, Tryz.prog.funcs[120]? = some fn ∧ fn.body.isSome = true ∧ (fn.name == "runtime.NumGoroutine") = false := ⟨Tryz.f120, by kernel_rfl, by kernel_rfl, by kernel_rfl⟩
end Go.Proofs
namespace Go.Proofs
open Go.AM
-- carousel/tens.Mul
def f109 (a : (List Int) × (List Int)) (b : (List Int) × (List Int)) : Option (Int × (List Int) × (List Int)) :=
  bindF (f120_66 (a.1, a.2) (b.1, b.2)) fun r1 =>
  some (r1.1, r1.2.1, r1.2.2)
def C109 : Con where
  X := ((List Int) × (List Int)) × ((List Int) × (List Int))
  Y := Int × (List Int) × (List Int)
  e := 0
  args x := [.dat (.p (.sl (.int .i64)) (.sl (.int .i64))) x.1, .dat (.p (.sl (.int .i64)) (.sl (.int .i64))) x.2]
  hin x := []
  F x := f109 x.1 x.2
  ret y := [.raw true [(.osl 0), (.osl 1)], .dat (.int .i64) y.1]
  hout y := [(0, .arr 3 (.int .i64) y.2.1), (1, .arr 23 (.int .i64) y.2.2)]
  nout := 2
theorem C109_vc (a : (List Int) × (List Int)) (b : (List Int) × (List Int)) (y : Int × (List Int) × (List Int)) (hF : f109 a b = some y) : vc Tryz.prog tab Tryz.f109.ntmps 0 (match Tryz.f109.body with | some c => c | none => .skip) (retK tab C109 Tryz.f109.results.toList y) (C109.shIn (a, b)).st := by
  unfold f109 at hF
  refine Or.inl ?_
  refine Or.inl ?_
  obtain ⟨r1, hr1, hF⟩ := bindE hF
  refine Or.inl (And.intro f120_66_in (callV0 (callI C120_66 ((a.1, a.2), (b.1, b.2)) r1 [] false C120_66_holds hr1 rfl rfl ?_)))
  refine (And.intro rfl (And.intro rfl (And.intro rfl (And.intro rfl (And.intro (fun h => nomatch h) (And.intro rfl (And.intro rfl (And.intro (And.intro rfl trivial) (And.intro trivial ?_)))))))))
  refine Or.inl ?_
  have hy := someE hF
  subst hy
  refine And.intro rfl (Exists.intro [] (Exists.intro [] (Exists.intro [] (Exists.intro [] (Exists.intro [(0, some 3), (1, some 4)] (And.intro rfl (And.intro rfl (And.intro (And.intro rfl trivial) (And.intro rfl (And.intro rfl trivial))))))))))
theorem C109_holds : C109.Holds Tryz.prog 109 := holds_of_vc tab_ok mixed (fn := Tryz.f109) (by kernel_rfl) rfl C109 (fun x y hF => C109_vc x.1 x.2 y hF)
theorem f109_in : ∃ fn, Tryz.prog.funcs[109]? = some fn ∧ fn.body.isSome = true ∧ (fn.name == "runtime.NumGoroutine") = false := ⟨Tryz.f109, by kernel_rfl, by kernel_rfl, by kernel_rfl⟩
end Go.Proofs
namespace Go.Proofs
open Go.AM
-- carousel/matm.matrix
def f144 (t : (List Int) × (List Int)) : Option Bool :=
  some ((List.length t.1 : Int) == (2 : Int))
def C144 : Con where
  X := (List Int) × (List Int)
  Y := Bool
  e := 0
  args x := [.dat (.p (.sl (.int .i64)) (.sl (.int .i64))) x]
  hin x := []
  F x := f144 x
  ret y := [.dat .bool y]
  hout y := []
  nout := 0
theorem C144_vc (t : (List Int) × (List Int)) (y : Bool) (hF : f144 t = some y) : vc Tryz.prog tab Tryz.f144.ntmps 0 (match Tryz.f144.body with | some c => c | none => .skip) (retK tab C144 Tryz.f144.results.toList y) (C144.shIn t).st := by
  unfold f144 at hF
  refine Or.inl ?_
  refine Or.inl ?_
  have hy := someE hF
  subst hy
  refine And.intro rfl (Exists.intro [] (Exists.intro [] (Exists.intro [] (Exists.intro [] (Exists.intro [] (And.intro rfl (And.intro rfl (And.intro trivial trivial))))))))
theorem C144_holds : C144.Holds Tryz.prog 144 := holds_of_vc tab_ok mixed (fn := Tryz.f144) (by kernel_rfl) rfl C144 (fun x y hF => C144_vc x y hF)
theorem f144_in : ∃ fn, Tryz.prog.funcs[144]? = some fn ∧ fn.body.isSome = true ∧ (fn.name == "runtime.NumGoroutine") = false := ⟨Tryz.f144, by kernel_rfl, by kernel_rfl, by kernel_rfl⟩
end Go.Proofs
namespace Go.Proofs
open Go.AM
-- slices.Index[[]int,int]
def f222_l1 (s : List Int) (v : Int) (go : Int → Option (Sum Int Unit)) (v8 : Int) : Option (Sum Int Unit) :=
  bif (decide (v8 < (List.length s : Int))) then
    guardF (0 ≤ v8 ∧ v8 < (List.length s : Int)) <|
    bif (v == (rd (0 : Int) s v8)) then
      some (Sum.inl v8)
    else
      go (IntKind.i64.wrap (v8 + (1 : Int)))
  else
    some (Sum.inr ())
def f222 (s : List Int) (v : Int) : Option Int :=
  bindF (loopF (fun go x => f222_l1 s v go x) fuelN (0 : Int)) fun z1 =>
  sumF z1 (fun z1a =>
    some z1a) (fun z1b =>
    some (-1 : Int))
def C222 : Con where
  X := (List Int) × Int
  Y := Int
  e := 0
  args x := [.dat (.sl (.int .i64)) x.1, .dat (.int .i64) x.2]
  hin x := []
  F x := f222 x.1 x.2
  ret y := [.dat (.int .i64) y]
  hout y := []
  nout := 0
theorem C222_vc (s : List Int) (v : Int) (y : Int) (hF : f222 s v = some y) : vc Tryz.prog tab Tryz.f222.ntmps 0 (match Tryz.f222.body with | some c => c | none => .skip) (retK tab C222 Tryz.f222.results.toList y) (C222.shIn (s, v)).st := by
  unfold f222 at hF
  refine Or.inl ?_
  refine Or.inl ?_
  refine Or.inl ?_
  obtain ⟨z1, hz1, hF⟩ := bindE hF
  refine loopI Int (Sum Int Unit) (fun x => ⟨[(0, .dat (.sl (.int .i64)) s), (1, .dat (.int .i64) v), (7, .dat (.int .i64) (List.length s : Int)), (8, .dat (.int .i64) x)], [], 0⟩) (fun z => Sum.elim (fun za => [(1, ⟨[(4, .dat (.int .i64) za)], [], 0⟩)]) (fun zb => [(2, ⟨[], [], 0⟩)]) z) (loopF (fun go x => f222_l1 s v go x)) fuelN (0 : Int) z1 (And.intro hz1 (And.intro (Exists.intro [] (Exists.intro [] (Exists.intro [] (Exists.intro [] (Exists.intro [] (And.intro rfl (And.intro rfl (And.intro rfl (And.intro rfl (And.intro rfl (And.intro trivial trivial))))))))))) (And.intro (fun _ _ h => loopZ h) (And.intro (fun m => fun v8 z hF => ?_) ?_))))
  · have hF : f222_l1 s v (loopF (fun go x => f222_l1 s v go x) m) v8 = some z := hF
    unfold f222_l1 at hF
    refine Or.inl ?_
    refine Or.inl ?_
    refine condI hF (fun hF => ?_) (fun hF => ?_)
    · refine Or.inl ?_
      refine Or.inl ?_
      refine Or.inl ?_
      refine guardI hF (fun hF => ?_)
      refine condI hF (fun hF => ?_) (fun hF => ?_)
      · refine Or.inl ?_
        have hz := someE hF
        subst hz
        refine Exists.intro [] (Exists.intro [] (Exists.intro [] (Exists.intro [] (Exists.intro [] (And.intro rfl (And.intro rfl (And.intro trivial trivial)))))))
      · refine Exists.intro (IntKind.i64.wrap (v8 + (1 : Int))) (And.intro hF (Exists.intro [] (Exists.intro [] (Exists.intro [] (Exists.intro [] (Exists.intro [] (And.intro rfl (And.intro rfl (And.intro rfl (And.intro rfl (And.intro rfl (And.intro trivial trivial))))))))))))
    · have hz := someE hF
      subst hz
      refine Exists.intro [] (Exists.intro [] (Exists.intro [] (Exists.intro [] (Exists.intro [] (And.intro rfl (And.intro trivial trivial))))))
  · rcases z1 with z1a | z1b
    · dsimp only [sumF] at hF
      refine And.intro ?_ trivial
      have hy := someE hF
      subst hy
      refine And.intro rfl (Exists.intro [] (Exists.intro [] (Exists.intro [] (Exists.intro [] (Exists.intro [] (And.intro rfl (And.intro rfl (And.intro trivial trivial))))))))
    · dsimp only [sumF] at hF
      refine And.intro ?_ trivial
      refine Or.inl ?_
      have hy := someE hF
      subst hy
      refine And.intro rfl (Exists.intro [] (Exists.intro [] (Exists.intro [] (Exists.intro [] (Exists.intro [] (And.intro rfl (And.intro rfl (And.intro trivial trivial))))))))
theorem C222_holds : C222.Holds Tryz.prog 222 := holds_of_vc tab_ok mixed (fn := Tryz.f222) (by kernel_rfl) rfl C222 (fun x y hF => C222_vc x.1 x.2 y hF)
theorem f222_in : ∃ fn, Tryz.prog.funcs[222]? = some fn ∧ fn.body.isSome = true ∧ (fn.name == "runtime.NumGoroutine") = false := ⟨Tryz.f222, by kernel_rfl, by kernel_rfl, by kernel_rfl⟩
end Go.Proofs
namespace Go.Proofs
open Go.AM
-- slices.Contains[[]int,int]
def f199 (s : List Int) (v : Int) : Option Bool :=
  bindF (f222 s v) fun r1 =>
  some (decide (r1 ≥ (0 : Int)))
def C199 : Con where
  X := (List Int) × Int
  Y := Bool
  e := 0
  args x := [.dat (.sl (.int .i64)) x.1, .dat (.int .i64) x.2]
  hin x := []
  F x := f199 x.1 x.2
  ret y := [.dat .bool y]
  hout y := []
  nout := 0
theorem C199_vc (s : List Int) (v : Int) (y : Bool) (hF : f199 s v = some y) : vc Tryz.prog tab Tryz.f199.ntmps 0 (match Tryz.f199.body with | some c => c | none => .skip) (retK tab C199 Tryz.f199.results.toList y) (C199.shIn (s, v)).st := by
  unfold f199 at hF
  refine Or.inl ?_
  refine Or.inl ?_
  obtain ⟨r1, hr1, hF⟩ := bindE hF
  refine Or.inl (And.intro f222_in (callV0 (callI C222 (s, v) r1 [] false C222_holds hr1 rfl rfl ?_)))
  refine (And.intro rfl (And.intro rfl (And.intro (fun h => nomatch h) (And.intro rfl (And.intro rfl (And.intro trivial (And.intro trivial ?_)))))))
  have hy := someE hF
  subst hy
  refine And.intro rfl (Exists.intro [] (Exists.intro [] (Exists.intro [] (Exists.intro [] (Exists.intro [] (And.intro rfl (And.intro rfl (And.intro trivial trivial))))))))
theorem C199_holds : C199.Holds Tryz.prog 199 := holds_of_vc tab_ok mixed (fn := Tryz.f199) (by kernel_rfl) rfl C199 (fun x y hF => C199_vc x.1 x.2 y hF)
theorem f199_in : ∃ fn, Tryz.prog.funcs[199]? = some fn ∧ fn.body.isSome = true ∧ (fn.name == "runtime.NumGoroutine") = false := ⟨Tryz.f199, by kernel_rfl, by kernel_rfl, by kernel_rfl⟩
end Go.Proofs
namespace Go.Proofs
open Go.AM
-- carousel/tens.permutes
def f183_l1 (order : List Int) (n : Int) (go : Int → Option (Sum Unit Unit)) (v11 : Int) : Option (Sum Unit Unit) :=
  bif (decide (v11 < n)) then
    bindF (f199 order v11) fun r4 =>
    bif (!r4) then
      some (Sum.inl ())
    else
      go (IntKind.i64.wrap (v11 + (1 : Int)))
  else
    some (Sum.inr ())
def f183 (order : List Int) (n : Int) : Option Bool :=
  bif ((List.length order : Int) != n) then
    some false
  else
    bindF (loopF (fun go x => f183_l1 order n go x) fuelN (0 : Int)) fun z3 =>
    sumF z3 (fun z3a =>
      some false) (fun z3b =>
      some true)
def C183 : Con where
  X := (List Int) × Int
  Y := Bool
  e := 0
  args x := [.dat (.sl (.int .i64)) x.1, .dat (.int .i64) x.2]
  hin x := []
  F x := f183 x.1 x.2
  ret y := [.dat .bool y]
  hout y := []
  nout := 0
theorem C183_vc (order : List Int) (n : Int) (y : Bool) (hF : f183 order n = some y) : vc Tryz.prog tab Tryz.f183.ntmps 0 (match Tryz.f183.body with | some c => c | none => .skip) (retK tab C183 Tryz.f183.results.toList y) (C183.shIn (order, n)).st := by
  unfold f183 at hF
  refine Or.inl ?_
  refine Or.inl ?_
  refine Or.inl ?_
  refine condI hF (fun hF => ?_) (fun hF => ?_)
  · refine Or.inl ?_
    have hy := someE hF
    subst hy
    refine And.intro rfl (Exists.intro [] (Exists.intro [] (Exists.intro [] (Exists.intro [] (Exists.intro [] (And.intro rfl (And.intro rfl (And.intro trivial trivial))))))))
  · refine Or.inl ?_
    refine Or.inl ?_
    obtain ⟨z3, hz3, hF⟩ := bindE hF
    refine loopI Int (Sum Unit Unit) (fun x => ⟨[(0, .dat (.sl (.int .i64)) order), (10, .dat (.int .i64) n), (11, .dat (.int .i64) x)], [], 0⟩) (fun z => Sum.elim (fun za => [(1, ⟨[(4, .dat .bool false)], [], 0⟩)]) (fun zb => [(2, ⟨[], [], 0⟩)]) z) (loopF (fun go x => f183_l1 order n go x)) fuelN (0 : Int) z3 (And.intro hz3 (And.intro (Exists.intro [] (Exists.intro [] (Exists.intro [] (Exists.intro [] (Exists.intro [] (And.intro rfl (And.intro rfl (And.intro rfl (And.intro rfl (And.intro trivial trivial)))))))))) (And.intro (fun _ _ h => loopZ h) (And.intro (fun m => fun v11 z hF => ?_) ?_))))
    · have hF : f183_l1 order n (loopF (fun go x => f183_l1 order n go x) m) v11 = some z := hF
      unfold f183_l1 at hF
      refine Or.inl ?_
      refine Or.inl ?_
      refine condI hF (fun hF => ?_) (fun hF => ?_)
      · refine Or.inl ?_
        refine Or.inl ?_
        refine Or.inl ?_
        obtain ⟨r4, hr4, hF⟩ := bindE hF
        refine Or.inl (And.intro f199_in (callV0 (callI C199 (order, v11) r4 [] false C199_holds hr4 rfl rfl ?_)))
        refine (And.intro rfl (And.intro rfl (And.intro (fun h => nomatch h) (And.intro rfl (And.intro rfl (And.intro trivial (And.intro trivial ?_)))))))
        refine condI hF (fun hF => ?_) (fun hF => ?_)
        · refine Or.inl ?_
          have hz := someE hF
          subst hz
          refine Exists.intro [] (Exists.intro [] (Exists.intro [] (Exists.intro [] (Exists.intro [] (And.intro rfl (And.intro rfl (And.intro trivial trivial)))))))
        · refine Exists.intro (IntKind.i64.wrap (v11 + (1 : Int))) (And.intro hF (Exists.intro [] (Exists.intro [] (Exists.intro [] (Exists.intro [] (Exists.intro [] (And.intro rfl (And.intro rfl (And.intro rfl (And.intro rfl (And.intro trivial trivial)))))))))))
      · have hz := someE hF
        subst hz
        refine Exists.intro [] (Exists.intro [] (Exists.intro [] (Exists.intro [] (Exists.intro [] (And.intro rfl (And.intro trivial trivial))))))
    · rcases z3 with z3a | z3b
      · dsimp only [sumF] at hF
        refine And.intro ?_ trivial
        have hy := someE hF
        subst hy
        refine And.intro rfl (Exists.intro [] (Exists.intro [] (Exists.intro [] (Exists.intro [] (Exists.intro [] (And.intro rfl (And.intro rfl (And.intro trivial trivial))))))))
      · dsimp only [sumF] at hF
        refine And.intro ?_ trivial
        refine Or.inl ?_
        have hy := someE hF
        subst hy
        refine And.intro rfl (Exists.intro [] (Exists.intro [] (Exists.intro [] (Exists.intro [] (Exists.intro [] (And.intro rfl (And.intro rfl (And.intro trivial trivial))))))))
theorem C183_holds : C183.Holds Tryz.prog 183 := holds_of_vc tab_ok mixed (fn := Tryz.f183) (by kernel_rfl) rfl C183 (fun x y hF => C183_vc x.1 x.2 y hF)
theorem f183_in : ∃ fn, Tryz.prog.funcs[183]? = some fn ∧ fn.body.isSome = true ∧ (fn.name == "runtime.NumGoroutine") = false := ⟨Tryz.f183, by kernel_rfl, by kernel_rfl, by kernel_rfl⟩
end Go.Proofs
namespace Go.Proofs
open Go.AM
-- carousel/shape.Place
def f146_j1 (d : List Int) (at_ : Int) : Option (Sum Unit Unit) :=
  bif (decide (at_ < (0 : Int))) then
    some (Sum.inr ())
  else
    bindF (f83 d) fun r3 =>
    bif (decide (at_ ≥ r3)) then
      some (Sum.inr ())
    else
      some (Sum.inl ())
def f146_l2 (d : List Int) (go : (Int × Int × (List Int)) → Option (List Int)) (at__2 : Int) (i : Int) (l0 : List Int) : Option (List Int) :=
  bif (decide (i ≥ (0 : Int))) then
    guardF (0 ≤ i ∧ i < (List.length d : Int)) <|
    guardF ((rd (0 : Int) d i) ≠ 0) <|
    guardF (0 ≤ i ∧ i < (List.length l0 : Int)) <|
    guardF (0 ≤ i ∧ i < (List.length d : Int)) <|
    guardF ((rd (0 : Int) d i) ≠ 0) <|
    go ((IntKind.i64.wrap (Int.tdiv at__2 (rd (0 : Int) d i))), (IntKind.i64.wrap (i - (1 : Int))), (List.set l0 (Int.toNat i) (Int.tmod at__2 (rd (0 : Int) d i))))
  else
    some l0
def f146 (d : List Int) (at_ : Int) : Option (Bool × (List Int)) :=
  bindF (f146_j1 d at_) fun z2 =>
  sumF z2 (fun z2a =>
    guardF (0 ≤ (List.length d : Int) ∧ (List.length d : Int) ≤ (List.length d : Int) ∧ Int.toNat (List.length d : Int) * 8 ≤ 140737488355328) <|
    bindF (loopF (fun go x => f146_l2 d go x.1 x.2.1 x.2.2) fuelN (at_, (IntKind.i64.wrap ((List.length d : Int) - (1 : Int))), (List.replicate (Int.toNat (List.length d : Int)) (0 : Int)))) fun z4 =>
    some (true, z4)) (fun z2b =>
    some (false, []))
def C146 : Con where
  X := (List Int) × Int
  Y := Bool × (List Int)
  e := 0
  args x := [.dat (.sl (.int .i64)) x.1, .dat (.int .i64) x.2]
  hin x := []
  F x := f146 x.1 x.2
  ret y := [.raw false [(.osl 0)], .dat .bool y.1]
  hout y := [(0, .arr 3 (.int .i64) y.2)]
  nout := 1
theorem C146_vc (d : List Int) (at_ : Int) (y : Bool × (List Int)) (hF : f146 d at_ = some y) : vc Tryz.prog tab Tryz.f146.ntmps 0 (match Tryz.f146.body with | some c => c | none => .skip) (retK tab C146 Tryz.f146.results.toList y) (C146.shIn (d, at_)).st := by
  unfold f146 at hF
  refine Or.inl ?_
  obtain ⟨z2, hz2, hF⟩ := bindE hF
  refine Or.inr ⟨Sum.elim (fun z2a => [(0, ⟨[(0, .dat (.sl (.int .i64)) d), (1, .dat (.int .i64) at_)], [], 0⟩)]) (fun z2b => [(1, ⟨[(4, .raw false [(.c (.slice none 0 0))]), (5, .dat .bool false)], [], 0⟩)]) z2, ?_, ?_⟩
  · have hF := hz2
    clear hz2
    unfold f146_j1 at hF
    refine Or.inl ?_
    refine condN hF (fun hF => ?_) (fun hF => ?_)
    · refine gdYF ?_
      refine gdYF ?_
      obtain ⟨r3, hr3, hF⟩ := bindE hF
      refine Or.inl (And.intro f83_in (callV0 (callI C83 d r3 [] false C83_holds hr3 rfl rfl ?_)))
      refine (And.intro rfl (And.intro (fun h => nomatch h) (And.intro rfl (And.intro rfl (And.intro trivial (And.intro trivial ?_))))))
      refine gdYF ?_
      refine condF ?_
      refine condI hF (fun hF => ?_) (fun hF => ?_)
      · refine Or.inl ?_
        have hz := someE hF
        subst hz
        refine Exists.intro [] (Exists.intro [] (Exists.intro [] (Exists.intro [] (Exists.intro [] (And.intro rfl (And.intro rfl (And.intro (And.intro rfl trivial) trivial)))))))
      · have hz := someE hF
        subst hz
        refine Exists.intro [] (Exists.intro [] (Exists.intro [] (Exists.intro [] (Exists.intro [] (And.intro rfl (And.intro rfl (And.intro rfl (And.intro trivial trivial))))))))
    · refine gdNF ?_
      refine gdNF ?_
      refine gdNF ?_
      refine condT ?_
      refine condT ?_
      refine Or.inl ?_
      have hz := someE hF
      subst hz
      refine Exists.intro [] (Exists.intro [] (Exists.intro [] (Exists.intro [] (Exists.intro [] (And.intro rfl (And.intro rfl (And.intro (And.intro rfl trivial) trivial)))))))
  · rcases z2 with z2a | z2b
    · dsimp only [sumF] at hF
      refine And.intro ?_ trivial
      refine Or.inl ?_
      refine guardI hF (fun hF => ?_)
      refine Or.inl ?_
      refine Or.inl ?_
      obtain ⟨z4, hz4, hF⟩ := bindE hF
      refine loopI (Int × Int × (List Int)) (List Int) (fun x => ⟨[(0, .dat (.sl (.int .i64)) d), (1, .dat (.int .i64) x.1), (6, .raw false [(.osl 0)]), (7, .dat (.int .i64) x.2.1)], [(0, .arr 3 (.int .i64) x.2.2)], 1⟩) (fun z => [(2, ⟨[(6, .raw false [(.osl 0)])], [(0, .arr 3 (.int .i64) z)], 1⟩)]) (loopF (fun go x => f146_l2 d go x.1 x.2.1 x.2.2)) fuelN (at_, (IntKind.i64.wrap ((List.length d : Int) - (1 : Int))), (List.replicate (Int.toNat (List.length d : Int)) (0 : Int))) z4 (And.intro hz4 (And.intro (Exists.intro [] (Exists.intro [] (Exists.intro [] (Exists.intro [] (Exists.intro [(0, some 0)] (And.intro rfl (And.intro rfl (And.intro rfl (And.intro rfl (And.intro (And.intro rfl trivial) (And.intro rfl trivial))))))))))) (And.intro (fun _ _ h => loopZ h) (And.intro (fun m => curI (fun at__2 => curI (fun i => fun l0 z hF => ?_))) ?_))))
      · have hF : f146_l2 d (loopF (fun go x => f146_l2 d go x.1 x.2.1 x.2.2) m) at__2 i l0 = some z := hF
        unfold f146_l2 at hF
        refine Or.inl ?_
        refine Or.inl ?_
        refine condI hF (fun hF => ?_) (fun hF => ?_)
        · refine Or.inl ?_
          refine Or.inl ?_
          refine guardI hF (fun hF => ?_)
          refine guardI hF (fun hF => ?_)
          refine guardI hF (fun hF => ?_)
          refine Or.inl ?_
          refine guardI hF (fun hF => ?_)
          refine guardI hF (fun hF => ?_)
          refine Exists.intro ((IntKind.i64.wrap (Int.tdiv at__2 (rd (0 : Int) d i))), (IntKind.i64.wrap (i - (1 : Int))), (List.set l0 (Int.toNat i) (Int.tmod at__2 (rd (0 : Int) d i)))) (And.intro hF (Exists.intro [] (Exists.intro [] (Exists.intro [] (Exists.intro [] (Exists.intro [(0, some 0)] (And.intro rfl (And.intro rfl (And.intro rfl (And.intro rfl (And.intro (And.intro rfl trivial) (And.intro rfl trivial))))))))))))
        · have hz := someE hF
          subst hz
          refine Exists.intro [] (Exists.intro [] (Exists.intro [] (Exists.intro [] (Exists.intro [(0, some 0)] (And.intro rfl (And.intro (And.intro rfl trivial) (And.intro rfl trivial)))))))
      · refine And.intro ?_ trivial
        refine Or.inl ?_
        have hy := someE hF
        subst hy
        refine And.intro rfl (Exists.intro [] (Exists.intro [] (Exists.intro [] (Exists.intro [] (Exists.intro [(0, some 0)] (And.intro rfl (And.intro rfl (And.intro (And.intro rfl trivial) (And.intro rfl trivial)))))))))
    · dsimp only [sumF] at hF
      refine And.intro ?_ trivial
      have hy := someE hF
      subst hy
      refine And.intro rfl (Exists.intro [] (Exists.intro [] (Exists.intro [] (Exists.intro [] (Exists.intro [(0, none)] (And.intro rfl (And.intro rfl (And.intro (And.intro rfl trivial) (And.intro rfl trivial)))))))))
theorem C146_holds : C146.Holds Tryz.prog 146 := holds_of_vc tab_ok mixed (fn := Tryz.f146) (by kernel_rfl) rfl C146 (fun x y hF => C146_vc x.1 x.2 y hF)
theorem f146_in : ∃ fn, Tryz.prog.funcs[146]? = some fn ∧ fn.body.isSome = true ∧ (fn.name == "runtime.NumGoroutine") = false := ⟨Tryz.f146, by kernel_rfl, by kernel_rfl, by kernel_rfl⟩
end Go.Proofs
namespace Go.Proofs
open Go.AM
-- carousel/shape.At
def f147_j1 (d : List Int) (place_ : List Int) : Option (Sum Unit Unit) :=
  bindF (f72 d) fun r3 =>
  bif (!r3) then
    some (Sum.inr ())
  else
    bif ((List.length place_ : Int) != (List.length d : Int)) then
      some (Sum.inr ())
    else
      some (Sum.inl ())
def f147_j5 (d : List Int) (place_ : List Int) (v21 : Int) : Option (Sum Unit Unit) :=
  bif (decide ((rd (0 : Int) place_ v21) < (0 : Int))) then
    some (Sum.inr ())
  else
    guardF (0 ≤ v21 ∧ v21 < (List.length d : Int)) <|
    bif (decide ((rd (0 : Int) place_ v21) ≥ (rd (0 : Int) d v21))) then
      some (Sum.inr ())
    else
      some (Sum.inl ())
def f147_l4 (d : List Int) (place_ : List Int) (go : (Int × Int) → Option (Sum Unit Int)) (at_ : Int) (v21 : Int) : Option (Sum Unit Int) :=
  bif (decide (v21 < (List.length place_ : Int))) then
    guardF (0 ≤ v21 ∧ v21 < (List.length place_ : Int)) <|
    bindF (f147_j5 d place_ v21) fun z7 =>
    sumF z7 (fun z7a =>
      guardF (0 ≤ v21 ∧ v21 < (List.length d : Int)) <|
      go ((IntKind.i64.wrap ((IntKind.i64.wrap (at_ * (rd (0 : Int) d v21))) + (rd (0 : Int) place_ v21))), (IntKind.i64.wrap (v21 + (1 : Int))))) (fun z7b =>
      some (Sum.inl ()))
  else
    some (Sum.inr at_)
def f147 (d : List Int) (place_ : List Int) : Option (Int × Bool) :=
  bindF (f147_j1 d place_) fun z2 =>
  sumF z2 (fun z2a =>
    bindF (loopF (fun go x => f147_l4 d place_ go x.1 x.2) fuelN ((0 : Int), (0 : Int))) fun z6 =>
    sumF z6 (fun z6a =>
      some ((0 : Int), false)) (fun z6b =>
      some (z6b, true))) (fun z2b =>
    some ((0 : Int), false))
def C147 : Con where
  X := (List Int) × (List Int)
  Y := Int × Bool
  e := 0
  args x := [.dat (.sl (.int .i64)) x.1, .dat (.sl (.int .i64)) x.2]
  hin x := []
  F x := f147 x.1 x.2
  ret y := [.dat (.int .i64) y.1, .dat .bool y.2]
  hout y := []
  nout := 0
theorem C147_vc (d : List Int) (place_ : List Int) (y : Int × Bool) (hF : f147 d place_ = some y) : vc Tryz.prog tab Tryz.f147.ntmps 0 (match Tryz.f147.body with | some c => c | none => .skip) (retK tab C147 Tryz.f147.results.toList y) (C147.shIn (d, place_)).st := by
  unfold f147 at hF
  refine Or.inl ?_
  obtain ⟨z2, hz2, hF⟩ := bindE hF
  refine Or.inr ⟨Sum.elim (fun z2a => [(0, ⟨[(0, .dat (.sl (.int .i64)) d), (1, .dat (.sl (.int .i64)) place_)], [], 0⟩)]) (fun z2b => [(1, ⟨[(4, .dat (.int .i64) (0 : Int)), (5, .dat .bool false)], [], 0⟩)]) z2, ?_, ?_⟩
  · have hF := hz2
    clear hz2
    unfold f147_j1 at hF
    refine Or.inl ?_
    obtain ⟨r3, hr3, hF⟩ := bindE hF
    refine Or.inl (And.intro f72_in (callV0 (callI C72 d r3 [] false C72_holds hr3 rfl rfl ?_)))
    refine (And.intro rfl (And.intro (fun h => nomatch h) (And.intro rfl (And.intro rfl (And.intro trivial (And.intro trivial ?_))))))
    refine condN hF (fun hF => ?_) (fun hF => ?_)
    · refine gdYF ?_
      refine gdYF ?_
      refine gdYF ?_
      refine gdYF ?_
      refine condF ?_
      refine condI hF (fun hF => ?_) (fun hF => ?_)
      · refine Or.inl ?_
        have hz := someE hF
        subst hz
        refine Exists.intro [] (Exists.intro [] (Exists.intro [] (Exists.intro [] (Exists.intro [] (And.intro rfl (And.intro rfl (And.intro rfl (And.intro trivial trivial))))))))
      · have hz := someE hF
        subst hz
        refine Exists.intro [] (Exists.intro [] (Exists.intro [] (Exists.intro [] (Exists.intro [] (And.intro rfl (And.intro rfl (And.intro rfl (And.intro trivial trivial))))))))
    · refine gdNF ?_
      refine gdNF ?_
      refine gdNF ?_
      refine gdNF ?_
      refine condT ?_
      refine condT ?_
      refine Or.inl ?_
      have hz := someE hF
      subst hz
      refine Exists.intro [] (Exists.intro [] (Exists.intro [] (Exists.intro [] (Exists.intro [] (And.intro rfl (And.intro rfl (And.intro rfl (And.intro trivial trivial))))))))
  · rcases z2 with z2a | z2b
    · dsimp only [sumF] at hF
      refine And.intro ?_ trivial
      refine Or.inl ?_
      refine Or.inl ?_
      refine Or.inl ?_
      obtain ⟨z6, hz6, hF⟩ := bindE hF
      refine loopI (Int × Int) (Sum Unit Int) (fun x => ⟨[(0, .dat (.sl (.int .i64)) d), (6, .dat (.int .i64) x.1), (19, .dat (.sl (.int .i64)) place_), (20, .dat (.int .i64) (List.length place_ : Int)), (21, .dat (.int .i64) x.2)], [], 0⟩) (fun z => Sum.elim (fun za => [(1, ⟨[(4, .dat (.int .i64) (0 : Int)), (5, .dat .bool false)], [], 0⟩)]) (fun zb => [(2, ⟨[(6, .dat (.int .i64) zb)], [], 0⟩)]) z) (loopF (fun go x => f147_l4 d place_ go x.1 x.2)) fuelN ((0 : Int), (0 : Int)) z6 (And.intro hz6 (And.intro (Exists.intro [] (Exists.intro [] (Exists.intro [] (Exists.intro [] (Exists.intro [] (And.intro rfl (And.intro rfl (And.intro rfl (And.intro rfl (And.intro rfl (And.intro rfl (And.intro trivial trivial)))))))))))) (And.intro (fun _ _ h => loopZ h) (And.intro (fun m => curI (fun at_ => fun v21 z hF => ?_)) ?_))))
      · have hF : f147_l4 d place_ (loopF (fun go x => f147_l4 d place_ go x.1 x.2) m) at_ v21 = some z := hF
        unfold f147_l4 at hF
        refine Or.inl ?_
        refine Or.inl ?_
        refine condI hF (fun hF => ?_) (fun hF => ?_)
        · refine Or.inl ?_
          refine Or.inl ?_
          refine guardI hF (fun hF => ?_)
          obtain ⟨z7, hz7, hF⟩ := bindE hF
          refine Or.inr ⟨Sum.elim (fun z7a => [(0, ⟨[(0, .dat (.sl (.int .i64)) d), (6, .dat (.int .i64) at_), (7, .dat (.int .i64) v21), (8, .dat (.int .i64) (rd (0 : Int) place_ v21)), (19, .dat (.sl (.int .i64)) place_), (20, .dat (.int .i64) (List.length place_ : Int)), (21, .dat (.int .i64) v21)], [], 0⟩)]) (fun z7b => [(1, ⟨[(4, .dat (.int .i64) (0 : Int)), (5, .dat .bool false)], [], 0⟩)]) z7, ?_, ?_⟩
          · have hF := hz7
            clear hz7
            unfold f147_j5 at hF
            refine Or.inl ?_
            refine condN hF (fun hF => ?_) (fun hF => ?_)
            · refine gdYF ?_
              refine gdYF ?_
              refine gdYF ?_
              refine guardI hF (fun hF => ?_)
              refine gdYF ?_
              refine gdYF ?_
              refine condF ?_
              refine condI hF (fun hF => ?_) (fun hF => ?_)
              · refine Or.inl ?_
                have hz := someE hF
                subst hz
                refine Exists.intro [] (Exists.intro [] (Exists.intro [] (Exists.intro [] (Exists.intro [] (And.intro rfl (And.intro rfl (And.intro rfl (And.intro trivial trivial))))))))
              · have hz := someE hF
                subst hz
                refine Exists.intro [] (Exists.intro [] (Exists.intro [] (Exists.intro [] (Exists.intro [] (And.intro rfl (And.intro rfl (And.intro rfl (And.intro rfl (And.intro rfl (And.intro rfl (And.intro rfl (And.intro rfl (And.intro trivial trivial)))))))))))))
            · refine gdNF ?_
              refine gdNF ?_
              refine gdNF ?_
              refine gdNF ?_
              refine gdNF ?_
              refine condT ?_
              refine condT ?_
              refine Or.inl ?_
              have hz := someE hF
              subst hz
              refine Exists.intro [] (Exists.intro [] (Exists.intro [] (Exists.intro [] (Exists.intro [] (And.intro rfl (And.intro rfl (And.intro rfl (And.intro trivial trivial))))))))
          · rcases z7 with z7a | z7b
            · dsimp only [sumF] at hF
              refine And.intro ?_ trivial
              refine guardI hF (fun hF => ?_)
              refine Exists.intro ((IntKind.i64.wrap ((IntKind.i64.wrap (at_ * (rd (0 : Int) d v21))) + (rd (0 : Int) place_ v21))), (IntKind.i64.wrap (v21 + (1 : Int)))) (And.intro hF (Exists.intro [] (Exists.intro [] (Exists.intro [] (Exists.intro [] (Exists.intro [] (And.intro rfl (And.intro rfl (And.intro rfl (And.intro rfl (And.intro rfl (And.intro rfl (And.intro trivial trivial)))))))))))))
            · dsimp only [sumF] at hF
              refine And.intro ?_ trivial
              have hz := someE hF
              subst hz
              refine Exists.intro [] (Exists.intro [] (Exists.intro [] (Exists.intro [] (Exists.intro [] (And.intro rfl (And.intro rfl (And.intro rfl (And.intro trivial trivial))))))))
        · have hz := someE hF
          subst hz
          refine Exists.intro [] (Exists.intro [] (Exists.intro [] (Exists.intro [] (Exists.intro [] (And.intro rfl (And.intro rfl (And.intro trivial trivial)))))))
      · rcases z6 with z6a | z6b
        · dsimp only [sumF] at hF
          refine And.intro ?_ trivial
          have hy := someE hF
          subst hy
          refine And.intro rfl (Exists.intro [] (Exists.intro [] (Exists.intro [] (Exists.intro [] (Exists.intro [] (And.intro rfl (And.intro rfl (And.intro rfl (And.intro trivial trivial)))))))))
        · dsimp only [sumF] at hF
          refine And.intro ?_ trivial
          refine Or.inl ?_
          have hy := someE hF
          subst hy
          refine And.intro rfl (Exists.intro [] (Exists.intro [] (Exists.intro [] (Exists.intro [] (Exists.intro [] (And.intro rfl (And.intro rfl (And.intro rfl (And.intro trivial trivial)))))))))
    · dsimp only [sumF] at hF
      refine And.intro ?_ trivial
      have hy := someE hF
      subst hy
      refine And.intro rfl (Exists.intro [] (Exists.intro [] (Exists.intro [] (Exists.intro [] (Exists.intro [] (And.intro rfl (And.intro rfl (And.intro rfl (And.intro trivial trivial)))))))))
theorem C147_holds : C147.Holds Tryz.prog 147 := holds_of_vc tab_ok mixed (fn := Tryz.f147) (by kernel_rfl) rfl C147 (fun x y hF => C147_vc x.1 x.2 y hF)
theorem f147_in : ∃ fn, Tryz.prog.funcs[147]? = some fn ∧ fn.body.isSome = true ∧ (fn.name == "runtime.NumGoroutine") = false := ⟨Tryz.f147, by kernel_rfl, by kernel_rfl, by kernel_rfl⟩
end Go.Proofs
namespace Go.Proofs
open Go.AM
-- carousel/tens.Turn
def f145_j3 (a : (List Int) × (List Int)) (order : List Int) : Option Bool :=
  bindF (f86 (a.1, a.2)) fun r9 =>
  bif (!r9) then
    some true
  else
    bindF (f183 order (List.length a.1 : Int)) fun r10 =>
    some (!r10)
def f145_j2 (a : (List Int) × (List Int)) (order : List Int) : Option (Sum Unit Unit) :=
  bindF (f145_j3 a order) fun z8 =>
  bif z8 then
    some (Sum.inr ())
  else
    some (Sum.inl ())
def f145_l4 (a : (List Int) × (List Int)) (order : List Int) (go : (Int × (List Int)) → Option (List Int)) (v36 : Int) (l2 : List Int) : Option (List Int) :=
  bif (decide (v36 < (List.length order : Int))) then
    guardF (0 ≤ v36 ∧ v36 < (List.length order : Int)) <|
    guardF (0 ≤ (rd (0 : Int) order v36) ∧ (rd (0 : Int) order v36) < (List.length a.1 : Int)) <|
    guardF (0 ≤ v36 ∧ v36 < (List.length l2 : Int)) <|
    go ((IntKind.i64.wrap (v36 + (1 : Int))), (List.set l2 (Int.toNat v36) (rd (0 : Int) a.1 (rd (0 : Int) order v36))))
  else
    some l2
def f145_l8 (order : List Int) (q21_9 : Bool × (List Int)) (go : (Int × (List Int)) → Option (List Int)) (v72 : Int) (l5_2 : List Int) : Option (List Int) :=
  bif (decide (v72 < (List.length order : Int))) then
    guardF (0 ≤ v72 ∧ v72 < (List.length order : Int)) <|
    guardF (0 ≤ v72 ∧ v72 < (List.length q21_9.2 : Int)) <|
    guardF (0 ≤ (rd (0 : Int) order v72) ∧ (rd (0 : Int) order v72) < (List.length l5_2 : Int)) <|
    go ((IntKind.i64.wrap (v72 + (1 : Int))), (List.set l5_2 (Int.toNat (rd (0 : Int) order v72)) (rd (0 : Int) q21_9.2 v72)))
  else
    some l5_2
def f145_l7 (a : (List Int) × (List Int)) (order : List Int) (z11 : List Int) (r12 : Int × (List Int) × (List Int)) (go : (Int × (List Int)) → Option (List Int)) (v58 : Int) (l5 : List Int) : Option (List Int) :=
  bif (decide (v58 < (List.length r12.2.2 : Int))) then
    bindF (f146 z11 v58) fun q21_9 =>
    guardF (0 ≤ (List.length order : Int) ∧ (List.length order : Int) ≤ (List.length order : Int) ∧ Int.toNat (List.length order : Int) * 8 ≤ 140737488355328) <|
    bindF (loopF (fun go x => f145_l8 order q21_9 go x.1 x.2) fuelN ((0 : Int), (List.replicate (Int.toNat (List.length order : Int)) (0 : Int)))) fun z19 =>
    bindF (f147 a.1 z19) fun r20 =>
    guardF (0 ≤ r20.1 ∧ r20.1 < (List.length a.2 : Int)) <|
    guardF (0 ≤ v58 ∧ v58 < (List.length l5 : Int)) <|
    go ((IntKind.i64.wrap (v58 + (1 : Int))), (List.set l5 (Int.toNat v58) (rd (0 : Int) a.2 r20.1)))
  else
    some l5
def f145 (a : (List Int) × (List Int)) (order : List Int) : Option (Int × (List Int) × (List Int)) :=
  bindF (f145_j2 a order) fun z5 =>
  sumF z5 (fun z5a =>
    guardF (0 ≤ (List.length order : Int) ∧ (List.length order : Int) ≤ (List.length order : Int) ∧ Int.toNat (List.length order : Int) * 8 ≤ 140737488355328) <|
    bindF (loopF (fun go x => f145_l4 a order go x.1 x.2) fuelN ((0 : Int), (List.replicate (Int.toNat (List.length order : Int)) (0 : Int)))) fun z11 =>
    bindF (f52 z11 (0 : Int)) fun r12 =>
    bindF (loopF (fun go x => f145_l7 a order z11 r12 go x.1 x.2) fuelN ((0 : Int), r12.2.2)) fun z18 =>
    some ((0 : Int), r12.2.1, z18)) (fun z5b =>
    some ((1 : Int), [], []))
def C145 : Con where
  X := ((List Int) × (List Int)) × (List Int)
  Y := Int × (List Int) × (List Int)
  e := 0
  args x := [.dat (.p (.sl (.int .i64)) (.sl (.int .i64))) x.1, .dat (.sl (.int .i64)) x.2]
  hin x := []
  F x := f145 x.1 x.2
  ret y := [.raw true [(.osl 0), (.osl 1)], .dat (.int .i64) y.1]
  hout y := [(0, .arr 3 (.int .i64) y.2.1), (1, .arr 23 (.int .i64) y.2.2)]
  nout := 2
theorem C145_vc (a : (List Int) × (List Int)) (order : List Int) (y : Int × (List Int) × (List Int)) (hF : f145 a order = some y) : vc Tryz.prog tab Tryz.f145.ntmps 0 (match Tryz.f145.body with | some c => c | none => .skip) (retK tab C145 Tryz.f145.results.toList y) (C145.shIn (a, order)).st := by
  unfold f145 at hF
  refine Or.inl ?_
  obtain ⟨z5, hz5, hF⟩ := bindE hF
  refine Or.inr ⟨Sum.elim (fun z5a => [(0, ⟨[(1, .dat (.sl (.int .i64)) order), (2, .raw false [(.ptr 0 0)]), (4, .raw false [(.ptr 1 0)])], [(0, .cells [(.d (.sl (.int .i64)) a.1), (.d (.sl (.int .i64)) a.2)]), (1, .cells [(.c (.slice none 0 0)), (.c (.slice none 0 0))])], 2⟩)]) (fun z5b => [(1, ⟨[(4, .raw false [(.ptr 0 0)]), (5, .dat (.int .i64) (1 : Int))], [(0, .cells [(.c (.slice none 0 0)), (.c (.slice none 0 0))])], 1⟩)]) z5, ?_, ?_⟩
  · have hF := hz5
    clear hz5
    unfold f145_j2 at hF
    obtain ⟨z8, hz8, hF⟩ := bindE hF
    refine Or.inr ⟨[(0, ⟨[(1, .dat (.sl (.int .i64)) order), (2, .raw false [(.ptr 0 0)]), (4, .raw false [(.ptr 1 0)]), (29, .dat .bool z8)], [(0, .cells [(.d (.sl (.int .i64)) a.1), (.d (.sl (.int .i64)) a.2)]), (1, .cells [(.c (.slice none 0 0)), (.c (.slice none 0 0))])], 2⟩)], ?_, ?_⟩
    · have hF := hz8
      clear hz8
      unfold f145_j3 at hF
      obtain ⟨r9, hr9, hF⟩ := bindE hF
      refine Or.inl (And.intro f86_in (callV0 (callI C86 (a.1, a.2) r9 [] false C86_holds hr9 rfl rfl ?_)))
      refine (And.intro rfl (And.intro rfl (And.intro (fun h => nomatch h) (And.intro rfl (And.intro rfl (And.intro trivial (And.intro trivial ?_)))))))
      refine condN hF (fun hF => ?_) (fun hF => ?_)
      · refine gdYF ?_
        refine gdYF ?_
        refine gdYF ?_
        refine gdYF ?_
        obtain ⟨r10, hr10, hF⟩ := bindE hF
        refine Or.inl (And.intro f183_in (callV0 (callI C183 (order, (List.length a.1 : Int)) r10 [] false C183_holds hr10 rfl rfl ?_)))
        refine (And.intro rfl (And.intro rfl (And.intro (fun h => nomatch h) (And.intro rfl (And.intro rfl (And.intro trivial (And.intro trivial ?_)))))))
        refine gdYF ?_
        refine condF ?_
        have hz := someE hF
        subst hz
        refine Exists.intro [] (Exists.intro [] (Exists.intro [] (Exists.intro [] (Exists.intro [(0, some 0), (1, some 1)] (And.intro rfl (And.intro rfl (And.intro rfl (And.intro (And.intro rfl (And.intro rfl trivial)) (And.intro rfl (And.intro rfl trivial))))))))))
      · refine gdNF ?_
        refine gdNF ?_
        refine gdNF ?_
        refine gdNF ?_
        refine gdNF ?_
        refine condT ?_
        have hz := someE hF
        subst hz
        refine Exists.intro [] (Exists.intro [] (Exists.intro [] (Exists.intro [] (Exists.intro [(0, some 0), (1, some 1)] (And.intro rfl (And.intro rfl (And.intro rfl (And.intro (And.intro rfl (And.intro rfl trivial)) (And.intro rfl (And.intro rfl trivial))))))))))
    · refine And.intro ?_ trivial
      refine condI hF (fun hF => ?_) (fun hF => ?_)
      · refine Or.inl ?_
        refine Or.inl ?_
        have hz := someE hF
        subst hz
        refine Exists.intro [] (Exists.intro [] (Exists.intro [] (Exists.intro [] (Exists.intro [(0, some 1)] (And.intro rfl (And.intro rfl (And.intro (And.intro rfl trivial) (And.intro rfl trivial))))))))
      · have hz := someE hF
        subst hz
        refine Exists.intro [] (Exists.intro [] (Exists.intro [] (Exists.intro [] (Exists.intro [(0, some 0), (1, some 1)] (And.intro rfl (And.intro rfl (And.intro (And.intro rfl (And.intro rfl trivial)) (And.intro rfl (And.intro rfl trivial)))))))))
  · rcases z5 with z5a | z5b
    · dsimp only [sumF] at hF
      refine And.intro ?_ trivial
      refine Or.inl ?_
      refine guardI hF (fun hF => ?_)
      refine Or.inl ?_
      refine Or.inl ?_
      obtain ⟨z11, hz11, hF⟩ := bindE hF
      refine loopI (Int × (List Int)) (List Int) (fun x => ⟨[(1, .dat (.sl (.int .i64)) order), (2, .raw false [(.ptr 0 0)]), (4, .raw false [(.ptr 1 0)]), (6, .raw false [(.osl 2)]), (34, .dat (.sl (.int .i64)) order), (35, .dat (.int .i64) (List.length order : Int)), (36, .dat (.int .i64) x.1)], [(0, .cells [(.d (.sl (.int .i64)) a.1), (.d (.sl (.int .i64)) a.2)]), (1, .cells [(.c (.slice none 0 0)), (.c (.slice none 0 0))]), (2, .arr 3 (.int .i64) x.2)], 3⟩) (fun z => [(2, ⟨[(1, .dat (.sl (.int .i64)) order), (2, .raw false [(.ptr 0 0)]), (4, .raw false [(.ptr 1 0)]), (6, .raw false [(.osl 2)])], [(0, .cells [(.d (.sl (.int .i64)) a.1), (.d (.sl (.int .i64)) a.2)]), (1, .cells [(.c (.slice none 0 0)), (.c (.slice none 0 0))]), (2, .arr 3 (.int .i64) z)], 3⟩)]) (loopF (fun go x => f145_l4 a order go x.1 x.2)) fuelN ((0 : Int), (List.replicate (Int.toNat (List.length order : Int)) (0 : Int))) z11 (And.intro hz11 (And.intro (Exists.intro [] (Exists.intro [] (Exists.intro [] (Exists.intro [] (Exists.intro [(0, some 0), (1, some 1), (2, some 2)] (And.intro rfl (And.intro rfl (And.intro rfl (And.intro rfl (And.intro rfl (And.intro (And.intro rfl (And.intro rfl (And.intro rfl trivial))) (And.intro rfl (And.intro rfl (And.intro rfl trivial)))))))))))))) (And.intro (fun _ _ h => loopZ h) (And.intro (fun m => curI (fun v36 => fun l2 z hF => ?_)) ?_))))
      · have hF : f145_l4 a order (loopF (fun go x => f145_l4 a order go x.1 x.2) m) v36 l2 = some z := hF
        unfold f145_l4 at hF
        refine Or.inl ?_
        refine Or.inl ?_
        refine condI hF (fun hF => ?_) (fun hF => ?_)
        · refine Or.inl ?_
          refine Or.inl ?_
          refine guardI hF (fun hF => ?_)
          refine guardI hF (fun hF => ?_)
          refine guardI hF (fun hF => ?_)
          refine Or.inl ?_
          refine Exists.intro ((IntKind.i64.wrap (v36 + (1 : Int))), (List.set l2 (Int.toNat v36) (rd (0 : Int) a.1 (rd (0 : Int) order v36)))) (And.intro hF (Exists.intro [] (Exists.intro [] (Exists.intro [] (Exists.intro [] (Exists.intro [(0, some 0), (1, some 1), (2, some 2)] (And.intro rfl (And.intro rfl (And.intro rfl (And.intro rfl (And.intro rfl (And.intro (And.intro rfl (And.intro rfl (And.intro rfl trivial))) (And.intro rfl (And.intro rfl (And.intro rfl trivial)))))))))))))))
        · have hz := someE hF
          subst hz
          refine Exists.intro [] (Exists.intro [] (Exists.intro [] (Exists.intro [] (Exists.intro [(0, some 0), (1, some 1), (2, some 2)] (And.intro rfl (And.intro rfl (And.intro (And.intro rfl (And.intro rfl (And.intro rfl trivial))) (And.intro rfl (And.intro rfl (And.intro rfl trivial))))))))))
      · refine And.intro ?_ trivial
        refine Or.inl ?_
        obtain ⟨r12, hr12, hF⟩ := bindE hF
        refine Or.inl (And.intro f52_in (callV0 (callI C52 (z11, (0 : Int)) r12 [] true C52_holds hr12 rfl rfl ?_)))
        refine (And.intro rfl (And.intro rfl (And.intro (fun _ => rfl) (And.intro rfl (And.intro rfl (And.intro trivial (And.intro trivial ?_)))))))
        refine Or.inl ?_
        refine Or.inl ?_
        refine Or.inl ?_
        obtain ⟨z18, hz18, hF⟩ := bindE hF
        refine loopI (Int × (List Int)) (List Int) (fun x => ⟨[(1, .dat (.sl (.int .i64)) order), (2, .raw false [(.ptr 0 0)]), (4, .raw false [(.ptr 1 0)]), (6, .raw false [(.osl 2)]), (9, .raw false [(.ptr 3 0)]), (57, .dat (.int .i64) (List.length r12.2.2 : Int)), (58, .dat (.int .i64) x.1)], [(0, .cells [(.d (.sl (.int .i64)) a.1), (.d (.sl (.int .i64)) a.2)]), (1, .cells [(.c (.slice none 0 0)), (.c (.slice none 0 0))]), (2, .arr 3 (.int .i64) z11), (3, .cells [(.osl 4), (.osl 5)]), (4, .arr 3 (.int .i64) r12.2.1), (5, .arr 23 (.int .i64) x.2)], 6⟩) (fun z => [(4, ⟨[(4, .raw false [(.ptr 0 0)]), (9, .raw false [(.ptr 1 0)])], [(0, .cells [(.c (.slice none 0 0)), (.c (.slice none 0 0))]), (1, .cells [(.osl 2), (.osl 3)]), (2, .arr 3 (.int .i64) r12.2.1), (3, .arr 23 (.int .i64) z)], 4⟩)]) (loopF (fun go x => f145_l7 a order z11 r12 go x.1 x.2)) fuelN ((0 : Int), r12.2.2) z18 (And.intro hz18 (And.intro (Exists.intro [] (Exists.intro [] (Exists.intro [] (Exists.intro [] (Exists.intro [(0, some 0), (1, some 1), (2, some 2), (3, some 5), (4, some 3), (5, some 4)] (And.intro rfl (And.intro rfl (And.intro rfl (And.intro rfl (And.intro (And.intro rfl (And.intro rfl (And.intro rfl (And.intro rfl trivial)))) (And.intro rfl (And.intro rfl (And.intro rfl (And.intro rfl (And.intro rfl (And.intro rfl trivial)))))))))))))))) (And.intro (fun _ _ h => loopZ h) (And.intro (fun m => curI (fun v58 => fun l5 z hF => ?_)) ?_))))
        · have hF : f145_l7 a order z11 r12 (loopF (fun go x => f145_l7 a order z11 r12 go x.1 x.2) m) v58 l5 = some z := hF
          unfold f145_l7 at hF
          refine Or.inl ?_
          refine Or.inl ?_
          refine condI hF (fun hF => ?_) (fun hF => ?_)
          · refine Or.inl ?_
            refine Or.inl ?_
            refine Or.inl ?_
            obtain ⟨q21_9, hq21_9, hF⟩ := bindE hF
            refine Or.inl (And.intro f146_in (callV0 (callI C146 (z11, v58) q21_9 [] true C146_holds hq21_9 rfl rfl ?_)))
            refine (And.intro rfl (And.intro rfl (And.intro (fun _ => rfl) (And.intro rfl (And.intro rfl (And.intro trivial (And.intro trivial ?_)))))))
            refine Or.inl ?_
            refine guardI hF (fun hF => ?_)
            refine Or.inl ?_
            refine Or.inl ?_
            obtain ⟨z19, hz19, hF⟩ := bindE hF
            refine loopI (Int × (List Int)) (List Int) (fun x => ⟨[(1, .dat (.sl (.int .i64)) order), (2, .raw false [(.ptr 0 0)]), (4, .raw false [(.ptr 1 0)]), (6, .raw false [(.osl 2)]), (9, .raw false [(.ptr 3 0)]), (11, .dat (.int .i64) v58), (12, .raw false [(.osl 4)]), (14, .raw false [(.osl 5)]), (57, .dat (.int .i64) (List.length r12.2.2 : Int)), (58, .dat (.int .i64) v58), (70, .dat (.sl (.int .i64)) order), (71, .dat (.int .i64) (List.length order : Int)), (72, .dat (.int .i64) x.1)], [(0, .cells [(.d (.sl (.int .i64)) a.1), (.d (.sl (.int .i64)) a.2)]), (1, .cells [(.c (.slice none 0 0)), (.c (.slice none 0 0))]), (2, .arr 3 (.int .i64) z11), (3, .cells [(.osl 6), (.osl 7)]), (4, .arr 3 (.int .i64) q21_9.2), (5, .arr 3 (.int .i64) x.2), (6, .arr 3 (.int .i64) r12.2.1), (7, .arr 23 (.int .i64) l5)], 8⟩) (fun z => [(6, ⟨[(1, .dat (.sl (.int .i64)) order), (2, .raw false [(.ptr 0 0)]), (4, .raw false [(.ptr 1 0)]), (6, .raw false [(.osl 2)]), (9, .raw false [(.ptr 3 0)]), (11, .dat (.int .i64) v58), (14, .raw false [(.osl 4)]), (57, .dat (.int .i64) (List.length r12.2.2 : Int)), (58, .dat (.int .i64) v58)], [(0, .cells [(.d (.sl (.int .i64)) a.1), (.d (.sl (.int .i64)) a.2)]), (1, .cells [(.c (.slice none 0 0)), (.c (.slice none 0 0))]), (2, .arr 3 (.int .i64) z11), (3, .cells [(.osl 5), (.osl 6)]), (4, .arr 3 (.int .i64) z), (5, .arr 3 (.int .i64) r12.2.1), (6, .arr 23 (.int .i64) l5)], 7⟩)]) (loopF (fun go x => f145_l8 order q21_9 go x.1 x.2)) fuelN ((0 : Int), (List.replicate (Int.toNat (List.length order : Int)) (0 : Int))) z19 (And.intro hz19 (And.intro (Exists.intro [] (Exists.intro [] (Exists.intro [] (Exists.intro [] (Exists.intro [(0, some 0), (1, some 1), (2, some 2), (3, some 3), (4, some 6), (5, some 7), (6, some 4), (7, some 5)] (And.intro rfl (And.intro rfl (And.intro rfl (And.intro rfl (And.intro rfl (And.intro rfl (And.intro rfl (And.intro rfl (And.intro (And.intro rfl (And.intro rfl (And.intro rfl (And.intro rfl (And.intro rfl (And.intro rfl trivial)))))) (And.intro rfl (And.intro rfl (And.intro rfl (And.intro rfl (And.intro rfl (And.intro rfl (And.intro rfl (And.intro rfl trivial)))))))))))))))))))))) (And.intro (fun _ _ h => loopZ h) (And.intro (fun m => curI (fun v72 => fun l5_2 z hF => ?_)) ?_))))
            · have hF : f145_l8 order q21_9 (loopF (fun go x => f145_l8 order q21_9 go x.1 x.2) m) v72 l5_2 = some z := hF
              unfold f145_l8 at hF
              refine Or.inl ?_
              refine Or.inl ?_
              refine condI hF (fun hF => ?_) (fun hF => ?_)
              · refine Or.inl ?_
                refine Or.inl ?_
                refine guardI hF (fun hF => ?_)
                refine guardI hF (fun hF => ?_)
                refine guardI hF (fun hF => ?_)
                refine Or.inl ?_
                refine Exists.intro ((IntKind.i64.wrap (v72 + (1 : Int))), (List.set l5_2 (Int.toNat (rd (0 : Int) order v72)) (rd (0 : Int) q21_9.2 v72))) (And.intro hF (Exists.intro [] (Exists.intro [] (Exists.intro [] (Exists.intro [] (Exists.intro [(0, some 0), (1, some 1), (2, some 2), (3, some 3), (4, some 4), (5, some 5), (6, some 6), (7, some 7)] (And.intro rfl (And.intro rfl (And.intro rfl (And.intro rfl (And.intro rfl (And.intro rfl (And.intro rfl (And.intro rfl (And.intro (And.intro rfl (And.intro rfl (And.intro rfl (And.intro rfl (And.intro rfl (And.intro rfl trivial)))))) (And.intro rfl (And.intro rfl (And.intro rfl (And.intro rfl (And.intro rfl (And.intro rfl (And.intro rfl (And.intro rfl trivial)))))))))))))))))))))))
              · have hz := someE hF
                subst hz
                refine Exists.intro [] (Exists.intro [] (Exists.intro [] (Exists.intro [] (Exists.intro [(0, some 0), (1, some 1), (2, some 2), (3, some 3), (4, some 5), (5, some 6), (6, some 7)] (And.intro rfl (And.intro rfl (And.intro rfl (And.intro rfl (And.intro rfl (And.intro (And.intro rfl (And.intro rfl (And.intro rfl (And.intro rfl (And.intro rfl trivial))))) (And.intro rfl (And.intro rfl (And.intro rfl (And.intro rfl (And.intro rfl (And.intro rfl (And.intro rfl trivial)))))))))))))))))
            · refine And.intro ?_ trivial
              refine Or.inl ?_
              obtain ⟨r20, hr20, hF⟩ := bindE hF
              refine Or.inl (And.intro f147_in (callV0 (callI C147 (a.1, z19) r20 [] true C147_holds hr20 rfl rfl ?_)))
              refine (And.intro rfl (And.intro rfl (And.intro (fun _ => rfl) (And.intro rfl (And.intro rfl (And.intro trivial (And.intro trivial ?_)))))))
              refine Exists.intro (.take 0 (.take 1 (.take 2 (.take 3 (.take 4 (.take 5 (.take 6 (.take 7 (.take 8 (.alt 9 .done .done)))))))))) (Exists.intro [] (Exists.intro [] (And.intro rfl ?_)))
              refine guardI hF (fun hF => ?_)
              refine guardI hF (fun hF => ?_)
              refine And.intro trivial ?_
              refine Or.inl ?_
              refine Exists.intro ((IntKind.i64.wrap (v58 + (1 : Int))), (List.set l5 (Int.toNat v58) (rd (0 : Int) a.2 r20.1))) (And.intro hF (Exists.intro [] (Exists.intro [] (Exists.intro [] (Exists.intro [] (Exists.intro [(0, some 0), (1, some 1), (2, some 2), (3, some 3), (4, some 5), (5, some 6)] (And.intro rfl (And.intro rfl (And.intro rfl (And.intro rfl (And.intro (And.intro rfl (And.intro rfl (And.intro rfl (And.intro rfl trivial)))) (And.intro rfl (And.intro rfl (And.intro rfl (And.intro rfl (And.intro rfl (And.intro rfl trivial)))))))))))))))))
          · have hz := someE hF
            subst hz
            refine Exists.intro [] (Exists.intro [] (Exists.intro [] (Exists.intro [] (Exists.intro [(0, some 1), (1, some 3), (2, some 4), (3, some 5)] (And.intro rfl (And.intro (And.intro rfl (And.intro rfl trivial)) (And.intro rfl (And.intro rfl (And.intro rfl (And.intro rfl trivial))))))))))
        · refine And.intro ?_ trivial
          refine Or.inl ?_
          refine Or.inl ?_
          have hy := someE hF
          subst hy
          refine And.intro rfl (Exists.intro [] (Exists.intro [] (Exists.intro [] (Exists.intro [] (Exists.intro [(0, some 2), (1, some 3)] (And.intro rfl (And.intro rfl (And.intro (And.intro rfl trivial) (And.intro rfl (And.intro rfl trivial))))))))))
    · dsimp only [sumF] at hF
      refine And.intro ?_ trivial
      have hy := someE hF
      subst hy
      refine And.intro rfl (Exists.intro [] (Exists.intro [] (Exists.intro [] (Exists.intro [] (Exists.intro [(0, none), (1, none)] (And.intro rfl (And.intro rfl (And.intro (And.intro rfl trivial) (And.intro rfl (And.intro rfl trivial))))))))))
theorem C145_holds : C145.Holds Tryz.prog 145 := holds_of_vc tab_ok mixed (fn := Tryz.f145) (by kernel_rfl) rfl C145 (fun x y hF => C145_vc x.1 x.2 y hF)
theorem f145_in : ∃ fn, Tryz.prog.funcs[145]? = some fn ∧ fn.body.isSome = true ∧ (fn.name == "runtime.NumGoroutine") = false := ⟨Tryz.f145, by kernel_rfl, by kernel_rfl, by kernel_rfl⟩
end Go.Proofs
namespace Go.Proofs
open Go.AM
-- carousel/matm.Flip
def f113 (a : (List Int) × (List Int)) : Option (Int × (List Int) × (List Int)) :=
  bindF (f86 (a.1, a.2)) fun r1 =>
  bif (!r1) then
    some ((1 : Int), [], [])
  else
    bindF (f144 (a.1, a.2)) fun r2 =>
    bif (!r2) then
      some ((4 : Int), [], [])
    else
      bindF (f145 (a.1, a.2) ([(1 : Int), (0 : Int)])) fun r3 =>
      some (r3.1, r3.2.1, r3.2.2)
def C113 : Con where
  X := (List Int) × (List Int)
  Y := Int × (List Int) × (List Int)
  e := 0
  args x := [.dat (.p (.sl (.int .i64)) (.sl (.int .i64))) x]
  hin x := []
  F x := f113 x
  ret y := [.raw true [(.osl 0), (.osl 1)], .dat (.int .i64) y.1]
  hout y := [(0, .arr 3 (.int .i64) y.2.1), (1, .arr 23 (.int .i64) y.2.2)]
  nout := 2
theorem C113_vc (a : (List Int) × (List Int)) (y : Int × (List Int) × (List Int)) (hF : f113 a = some y) : vc Tryz.prog tab Tryz.f113.ntmps 0 (match Tryz.f113.body with | some c => c | none => .skip) (retK tab C113 Tryz.f113.results.toList y) (C113.shIn a).st := by
  unfold f113 at hF
  refine Or.inl ?_
  refine Or.inl ?_
  refine Or.inl ?_
  obtain ⟨r1, hr1, hF⟩ := bindE hF
  refine Or.inl (And.intro f86_in (callV0 (callI C86 (a.1, a.2) r1 [] false C86_holds hr1 rfl rfl ?_)))
  refine (And.intro rfl (And.intro rfl (And.intro (fun h => nomatch h) (And.intro rfl (And.intro rfl (And.intro trivial (And.intro trivial ?_)))))))
  refine condI hF (fun hF => ?_) (fun hF => ?_)
  · refine Or.inl ?_
    refine Or.inl ?_
    have hy := someE hF
    subst hy
    refine And.intro rfl (Exists.intro [] (Exists.intro [] (Exists.intro [] (Exists.intro [] (Exists.intro [(0, none), (1, none)] (And.intro rfl (And.intro rfl (And.intro (And.intro rfl trivial) (And.intro rfl (And.intro rfl trivial))))))))))
  · refine Or.inl ?_
    obtain ⟨r2, hr2, hF⟩ := bindE hF
    refine Or.inl (And.intro f144_in (callV0 (callI C144 (a.1, a.2) r2 [] false C144_holds hr2 rfl rfl ?_)))
    refine (And.intro rfl (And.intro rfl (And.intro (fun h => nomatch h) (And.intro rfl (And.intro rfl (And.intro trivial (And.intro trivial ?_)))))))
    refine condI hF (fun hF => ?_) (fun hF => ?_)
    · refine Or.inl ?_
      refine Or.inl ?_
      have hy := someE hF
      subst hy
      refine And.intro rfl (Exists.intro [] (Exists.intro [] (Exists.intro [] (Exists.intro [] (Exists.intro [(0, none), (1, none)] (And.intro rfl (And.intro rfl (And.intro (And.intro rfl trivial) (And.intro rfl (And.intro rfl trivial))))))))))
    · refine Or.inl ?_
      refine Or.inl ?_
      obtain ⟨r3, hr3, hF⟩ := bindE hF
      refine Or.inl (And.intro f145_in (callV0 (callI C145 ((a.1, a.2), [(1 : Int), (0 : Int)]) r3 [] true C145_holds hr3 rfl rfl ?_)))
      refine (And.intro rfl (And.intro rfl (And.intro rfl (And.intro (fun _ => rfl) (And.intro rfl (And.intro rfl (And.intro trivial (And.intro trivial ?_))))))))
      refine Or.inl ?_
      have hy := someE hF
      subst hy
      refine And.intro rfl (Exists.intro [] (Exists.intro [] (Exists.intro [] (Exists.intro [] (Exists.intro [(0, some 3), (1, some 4)] (And.intro rfl (And.intro rfl (And.intro (And.intro rfl trivial) (And.intro rfl (And.intro rfl trivial))))))))))
theorem C113_holds : C113.Holds Tryz.prog 113 := holds_of_vc tab_ok mixed (fn := Tryz.f113) (by kernel_rfl) rfl C113 (fun x y hF => C113_vc x y hF)
theorem f113_in : ∃ fn, Tryz.prog.funcs[113]? = some fn ∧ fn.body.isSome = true ∧ (fn.name == "runtime.NumGoroutine") = false := ⟨Tryz.f113, by kernel_rfl, by kernel_rfl, by kernel_rfl⟩
end Go.Proofs
namespace Go.Proofs
open Go.AM
-- carousel/wide.size
def f131 (v : Int) : Option Int :=
  bif (decide (v < (0 : Int))) then
    some (IntKind.u64.wrap (0 - (IntKind.u64.wrap v)))
  else
    some (IntKind.u64.wrap v)
def C131 : Con where
  X := Int
  Y := Int
  e := 0
  args x := [.dat (.int .i64) x]
  hin x := []
  F x := f131 x
  ret y := [.dat (.int .u64) y]
  hout y := []
  nout := 0
theorem C131_vc (v : Int) (y : Int) (hF : f131 v = some y) : vc Tryz.prog tab Tryz.f131.ntmps 0 (match Tryz.f131.body with | some c => c | none => .skip) (retK tab C131 Tryz.f131.results.toList y) (C131.shIn v).st := by
  unfold f131 at hF
  refine Or.inl ?_
  refine Or.inl ?_
  refine Or.inl ?_
  refine condI hF (fun hF => ?_) (fun hF => ?_)
  · refine Or.inl ?_
    have hy := someE hF
    subst hy
    refine And.intro rfl (Exists.intro [] (Exists.intro [] (Exists.intro [] (Exists.intro [] (Exists.intro [] (And.intro rfl (And.intro rfl (And.intro trivial trivial))))))))
  · refine Or.inl ?_
    have hy := someE hF
    subst hy
    refine And.intro rfl (Exists.intro [] (Exists.intro [] (Exists.intro [] (Exists.intro [] (Exists.intro [] (And.intro rfl (And.intro rfl (And.intro trivial trivial))))))))
theorem C131_holds : C131.Holds Tryz.prog 131 := holds_of_vc tab_ok mixed (fn := Tryz.f131) (by kernel_rfl) rfl C131 (fun x y hF => C131_vc x y hF)
theorem f131_in : ∃ fn, Tryz.prog.funcs[131]? = some fn ∧ fn.body.isSome = true ∧ (fn.name == "runtime.NumGoroutine") = false := ⟨Tryz.f131, by kernel_rfl, by kernel_rfl, by kernel_rfl⟩
end Go.Proofs
namespace Go.Proofs
open Go.AM
-- carousel/wide.Sub
def f172 (a : Int × Int) (b : Int × Int) : Option (Int × Int) :=
  bindF (sub64 a.2 b.2 (0 : Int)) fun r1 =>
  bindF (sub64 (IntKind.u64.wrap a.1) (IntKind.u64.wrap b.1) r1.2) fun r2 =>
  some ((IntKind.i64.wrap r2.1), r1.1)
def C172 : Con where
  X := (Int × Int) × (Int × Int)
  Y := Int × Int
  e := 0
  args x := [.dat (.p (.int .i64) (.int .u64)) x.1, .dat (.p (.int .i64) (.int .u64)) x.2]
  hin x := []
  F x := f172 x.1 x.2
  ret y := [.raw true [(.d (.int .i64) y.1), (.d (.int .u64) y.2)]]
  hout y := []
  nout := 0
theorem C172_vc (a : Int × Int) (b : Int × Int) (y : Int × Int) (hF : f172 a b = some y) : vc Tryz.prog tab Tryz.f172.ntmps 0 (match Tryz.f172.body with | some c => c | none => .skip) (retK tab C172 Tryz.f172.results.toList y) (C172.shIn (a, b)).st := by
  unfold f172 at hF
  refine Or.inl ?_
  refine Or.inl ?_
  obtain ⟨r1, hr1, hF⟩ := bindE hF
  refine Or.inr ⟨ext3 sub64, [r1.1, r1.2], sub64_ok, And.intro (ext3I hr1) ?_⟩
  refine Or.inl ?_
  obtain ⟨r2, hr2, hF⟩ := bindE hF
  refine Or.inr ⟨ext3 sub64, [r2.1, r2.2], sub64_ok, And.intro (ext3I hr2) ?_⟩
  refine Or.inl ?_
  refine Or.inl ?_
  have hy := someE hF
  subst hy
  refine And.intro rfl (Exists.intro [] (Exists.intro [] (Exists.intro [] (Exists.intro [] (Exists.intro [] (And.intro rfl (And.intro (And.intro rfl trivial) trivial)))))))
theorem C172_holds : C172.Holds Tryz.prog 172 := holds_of_vc tab_ok mixed (fn := Tryz.f172) (by kernel_rfl) rfl C172 (fun x y hF => C172_vc x.1 x.2 y hF)
theorem f172_in : ∃ fn, Tryz.prog.funcs[172]? = some fn ∧ fn.body.isSome = true ∧ (fn.name == "runtime.NumGoroutine") = false := ⟨Tryz.f172, by kernel_rfl, by kernel_rfl, by kernel_rfl⟩
end Go.Proofs
namespace Go.Proofs
open Go.AM
-- carousel/wide.Neg
def f134 (a : Int × Int) : Option (Int × Int) :=
  bindF (f172 ((0 : Int), (0 : Int)) (a.1, a.2)) fun r1 =>
  some (r1.1, r1.2)
def C134 : Con where
  X := Int × Int
  Y := Int × Int
  e := 0
  args x := [.dat (.p (.int .i64) (.int .u64)) x]
  hin x := []
  F x := f134 x
  ret y := [.raw true [(.d (.int .i64) y.1), (.d (.int .u64) y.2)]]
  hout y := []
  nout := 0
theorem C134_vc (a : Int × Int) (y : Int × Int) (hF : f134 a = some y) : vc Tryz.prog tab Tryz.f134.ntmps 0 (match Tryz.f134.body with | some c => c | none => .skip) (retK tab C134 Tryz.f134.results.toList y) (C134.shIn a).st := by
  unfold f134 at hF
  refine Or.inl ?_
  refine Or.inl ?_
  obtain ⟨r1, hr1, hF⟩ := bindE hF
  refine Or.inl (And.intro f172_in (callV0 (callI C172 (((0 : Int), (0 : Int)), (a.1, a.2)) r1 [] false C172_holds hr1 rfl rfl ?_)))
  refine (And.intro rfl (And.intro rfl (And.intro rfl (And.intro rfl (And.intro (fun h => nomatch h) (And.intro rfl (And.intro rfl (And.intro trivial (And.intro trivial ?_)))))))))
  refine Or.inl ?_
  have hy := someE hF
  subst hy
  refine And.intro rfl (Exists.intro [] (Exists.intro [] (Exists.intro [] (Exists.intro [] (Exists.intro [] (And.intro rfl (And.intro (And.intro rfl trivial) trivial)))))))
theorem C134_holds : C134.Holds Tryz.prog 134 := holds_of_vc tab_ok mixed (fn := Tryz.f134) (by kernel_rfl) rfl C134 (fun x y hF => C134_vc x y hF)
theorem f134_in : ∃ fn, Tryz.prog.funcs[134]? = some fn ∧ fn.body.isSome = true ∧ (fn.name == "runtime.NumGoroutine") = false := ⟨Tryz.f134, by kernel_rfl, by kernel_rfl, by kernel_rfl⟩
end Go.Proofs
namespace Go.Proofs
open Go.AM
-- carousel/wide.Prod
def f186 (a : Int) (b : Int) : Option (Int × Int) :=
  bindF (f131 a) fun r1 =>
  bindF (f131 b) fun r2 =>
  bindF (f95 r1 r2) fun r3 =>
  bif (!((decide (a < (0 : Int))) == (decide (b < (0 : Int))))) then
    bindF (f134 ((IntKind.i64.wrap r3.1), r3.2)) fun r4 =>
    some (r4.1, r4.2)
  else
    some ((IntKind.i64.wrap r3.1), r3.2)
def C186 : Con where
  X := Int × Int
  Y := Int × Int
  e := 0
  args x := [.dat (.int .i64) x.1, .dat (.int .i64) x.2]
  hin x := []
  F x := f186 x.1 x.2
  ret y := [.raw true [(.d (.int .i64) y.1), (.d (.int .u64) y.2)]]
  hout y := []
  nout := 0
theorem C186_vc (a : Int) (b : Int) (y : Int × Int) (hF : f186 a b = some y) : vc Tryz.prog tab Tryz.f186.ntmps 0 (match Tryz.f186.body with | some c => c | none => .skip) (retK tab C186 Tryz.f186.results.toList y) (C186.shIn (a, b)).st := by
  unfold f186 at hF
  refine Or.inl ?_
  refine Or.inl ?_
  obtain ⟨r1, hr1, hF⟩ := bindE hF
  refine Or.inl (And.intro f131_in (callV0 (callI C131 a r1 [] false C131_holds hr1 rfl rfl ?_)))
  refine (And.intro rfl (And.intro (fun h => nomatch h) (And.intro rfl (And.intro rfl (And.intro trivial (And.intro trivial ?_))))))
  obtain ⟨r2, hr2, hF⟩ := bindE hF
  refine Or.inl (And.intro f131_in (callV0 (callI C131 b r2 [] false C131_holds hr2 rfl rfl ?_)))
  refine (And.intro rfl (And.intro (fun h => nomatch h) (And.intro rfl (And.intro rfl (And.intro trivial (And.intro trivial ?_))))))
  obtain ⟨r3, hr3, hF⟩ := bindE hF
  refine Or.inl (And.intro f95_in (callV0 (callI C95 (r1, r2) r3 [] false C95_holds hr3 rfl rfl ?_)))
  refine (And.intro rfl (And.intro rfl (And.intro (fun h => nomatch h) (And.intro rfl (And.intro rfl (And.intro trivial (And.intro trivial ?_)))))))
  refine Or.inl ?_
  refine Or.inl ?_
  refine Or.inl ?_
  refine Or.inl ?_
  refine condI hF (fun hF => ?_) (fun hF => ?_)
  · refine Or.inl ?_
    obtain ⟨r4, hr4, hF⟩ := bindE hF
    refine Or.inl (And.intro f134_in (callV0 (callI C134 ((IntKind.i64.wrap r3.1), r3.2) r4 [] false C134_holds hr4 rfl rfl ?_)))
    refine (And.intro rfl (And.intro rfl (And.intro (fun h => nomatch h) (And.intro rfl (And.intro rfl (And.intro trivial (And.intro trivial ?_)))))))
    refine Or.inl ?_
    have hy := someE hF
    subst hy
    refine And.intro rfl (Exists.intro [] (Exists.intro [] (Exists.intro [] (Exists.intro [] (Exists.intro [] (And.intro rfl (And.intro (And.intro rfl trivial) trivial)))))))
  · refine Or.inl ?_
    refine Or.inl ?_
    have hy := someE hF
    subst hy
    refine And.intro rfl (Exists.intro [] (Exists.intro [] (Exists.intro [] (Exists.intro [] (Exists.intro [] (And.intro rfl (And.intro (And.intro rfl trivial) trivial)))))))
theorem C186_holds : C186.Holds Tryz.prog 186 := holds_of_vc tab_ok mixed (fn := Tryz.f186) (by kernel_rfl) rfl C186 (fun x y hF => C186_vc x.1 x.2 y hF)
theorem f186_in : ∃ fn, Tryz.prog.funcs[186]? = some fn ∧ fn.body.isSome = true ∧ (fn.name == "runtime.NumGoroutine") = false := ⟨Tryz.f186, by kernel_rfl, by kernel_rfl, by kernel_rfl⟩
end Go.Proofs
namespace Go.Proofs
open Go.AM
-- (*carousel/wide.Acc).Plus
def f154 (s_top : Int) (s_low_Hi : Int) (s_low_Lo : Int) (a : Int) (b : Int) : Option (Int × Int × Int) :=
  bindF (f186 a b) fun q4_13 =>
  bindF (add64 s_low_Lo q4_13.2 (0 : Int)) fun q1_7 =>
  bindF (add64 (IntKind.u64.wrap s_low_Hi) (IntKind.u64.wrap q4_13.1) q1_7.2) fun q2_10 =>
  some ((IntKind.i64.wrap (s_top + (IntKind.i64.wrap ((Int.fdiv q4_13.1 (2 ^ min (Int.toNat (63 : Int)) (IntKind.bits IntKind.i64))) + (IntKind.i64.wrap q2_10.2))))), (IntKind.i64.wrap q2_10.1), q1_7.1)
def C154 : Con where
  X := Int × Int × Int × Int × Int
  Y := Int × Int × Int
  e := 1
  args x := [.raw false [(.ptr 0 0)], .dat (.int .i64) x.2.2.2.1, .dat (.int .i64) x.2.2.2.2]
  hin x := [(0, .cells [(.d (.int .i64) x.1), (.d (.int .i64) x.2.1), (.d (.int .u64) x.2.2.1)])]
  F x := f154 x.1 x.2.1 x.2.2.1 x.2.2.2.1 x.2.2.2.2
  ret y := []
  hout y := [(0, .cells [(.d (.int .i64) y.1), (.d (.int .i64) y.2.1), (.d (.int .u64) y.2.2)])]
  nout := 1
theorem C154_vc (s_top : Int) (s_low_Hi : Int) (s_low_Lo : Int) (a : Int) (b : Int) (y : Int × Int × Int) (hF : f154 s_top s_low_Hi s_low_Lo a b = some y) : vc Tryz.prog tab Tryz.f154.ntmps 1 (match Tryz.f154.body with | some c => c | none => .skip) (retK tab C154 Tryz.f154.results.toList y) (C154.shIn (s_top, s_low_Hi, s_low_Lo, a, b)).st := by
  unfold f154 at hF
  refine Or.inl ?_
  obtain ⟨q4_13, hq4_13, hF⟩ := bindE hF
  refine Or.inl (And.intro f186_in (callV0 (callI C186 (a, b) q4_13 [] false C186_holds hq4_13 rfl rfl ?_)))
  refine (And.intro rfl (And.intro rfl (And.intro (fun h => nomatch h) (And.intro rfl (And.intro rfl (And.intro trivial (And.intro trivial ?_)))))))
  refine Or.inl ?_
  refine Or.inl ?_
  refine Exists.intro (.take 0 (.take 1 (.take 2 (.take 3 (.take 4 (.take 5 (.take 6 (.alt 7 (.take 8 (.take 9 (.take 10 (.take 11 (.take 12 .done))))) .done)))))))) (Exists.intro [] (Exists.intro [] (And.intro rfl ?_)))
  refine And.intro trivial ?_
  obtain ⟨q1_7, hq1_7, hF⟩ := bindE hF
  refine Or.inr ⟨ext3 add64, [q1_7.1, q1_7.2], add64_ok, And.intro (ext3I hq1_7) ?_⟩
  refine Or.inl ?_
  refine Exists.intro (.take 0 (.take 1 (.take 2 (.take 3 (.take 4 (.take 5 (.take 6 (.take 7 (.take 8 (.take 9 (.alt 10 (.take 11 (.take 12 (.take 13 (.take 14 (.take 15 .done))))) .done))))))))))) (Exists.intro [] (Exists.intro [] (And.intro rfl ?_)))
  refine And.intro trivial ?_
  obtain ⟨q2_10, hq2_10, hF⟩ := bindE hF
  refine Or.inr ⟨ext3 add64, [q2_10.1, q2_10.2], add64_ok, And.intro (ext3I hq2_10) ?_⟩
  refine Or.inl ?_
  refine Or.inl ?_
  refine Exists.intro (.take 0 (.take 1 (.take 2 (.take 3 (.take 4 (.take 5 (.take 6 (.take 7 (.take 8 (.take 9 (.take 10 (.take 11 (.take 12 (.alt 13 .done .done)))))))))))))) (Exists.intro [(13, [0])] (Exists.intro [] (And.intro rfl ?_)))
  refine And.intro (by decide) ?_
  refine And.intro trivial ?_
  refine Or.inl ?_
  have hy := someE hF
  subst hy
  refine And.intro rfl (Exists.intro [] (Exists.intro [] (Exists.intro [] (Exists.intro [] (Exists.intro [(0, some 0)] (And.intro rfl (And.intro trivial (And.intro rfl trivial))))))))
theorem C154_holds : C154.Holds Tryz.prog 154 := holds_of_vc tab_ok mixed (fn := Tryz.f154) (by kernel_rfl) rfl C154 (fun x y hF => C154_vc x.1 x.2.1 x.2.2.1 x.2.2.2.1 x.2.2.2.2 y hF)
theorem f154_in : ∃ fn, Tryz.prog.funcs[154]? = some fn ∧ fn.body.isSome = true ∧ (fn.name == "runtime.NumGoroutine") = false := ⟨Tryz.f154, by kernel_rfl, by kernel_rfl, by kernel_rfl⟩
end Go.Proofs
