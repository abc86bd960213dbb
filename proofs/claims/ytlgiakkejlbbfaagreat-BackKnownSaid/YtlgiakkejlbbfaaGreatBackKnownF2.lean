import Derived.Test.YtlgiakkejlbbfaaGreatBackKnownF1
set_option linter.unusedVariables false
set_option maxRecDepth 100000
set_option maxHeartbeats 8000000
namespace Go.Proofs
open Go.AM
-- carousel/wide.down
def f180 (a : Int × Int) (n : Int) : Option (Int × Int × Int × Int) :=
  bif (decide (n ≥ (64 : Int))) then
    guardF (0 ≤ (IntKind.i64.wrap (n - (64 : Int)))) <|
    guardF (0 ≤ (IntKind.i64.wrap ((64 : Int) - (IntKind.i64.wrap (n - (64 : Int)))))) <|
    guardF (0 ≤ (IntKind.i64.wrap (n - (64 : Int)))) <|
    guardF (0 ≤ (IntKind.i64.wrap ((64 : Int) - (IntKind.i64.wrap (n - (64 : Int)))))) <|
    some ((Int.fdiv a.1 (2 ^ min (Int.toNat (63 : Int)) (IntKind.bits IntKind.i64))), (IntKind.u64.wrap (Int.fdiv a.1 (2 ^ min (Int.toNat (IntKind.i64.wrap (n - (64 : Int)))) (IntKind.bits IntKind.i64)))), (bitsOf IntKind.u64 (fun p q => p ||| q) (IntKind.u64.wrap ((IntKind.u64.wrap a.1) * 2 ^ min (Int.toNat (IntKind.i64.wrap ((64 : Int) - (IntKind.i64.wrap (n - (64 : Int)))))) (IntKind.bits IntKind.u64))) (Int.fdiv a.2 (2 ^ min (Int.toNat (IntKind.i64.wrap (n - (64 : Int)))) (IntKind.bits IntKind.u64)))), (IntKind.u64.wrap (a.2 * 2 ^ min (Int.toNat (IntKind.i64.wrap ((64 : Int) - (IntKind.i64.wrap (n - (64 : Int)))))) (IntKind.bits IntKind.u64))))
  else
    guardF (0 ≤ n) <|
    guardF (0 ≤ (IntKind.i64.wrap ((64 : Int) - n))) <|
    guardF (0 ≤ n) <|
    guardF (0 ≤ (IntKind.i64.wrap ((64 : Int) - n))) <|
    some ((Int.fdiv a.1 (2 ^ min (Int.toNat n) (IntKind.bits IntKind.i64))), (bitsOf IntKind.u64 (fun p q => p ||| q) (IntKind.u64.wrap ((IntKind.u64.wrap a.1) * 2 ^ min (Int.toNat (IntKind.i64.wrap ((64 : Int) - n))) (IntKind.bits IntKind.u64))) (Int.fdiv a.2 (2 ^ min (Int.toNat n) (IntKind.bits IntKind.u64)))), (IntKind.u64.wrap (a.2 * 2 ^ min (Int.toNat (IntKind.i64.wrap ((64 : Int) - n))) (IntKind.bits IntKind.u64))), (0 : Int))
def C180 : Con where
  X := (Int × Int) × Int
  Y := Int × Int × Int × Int
  e := 0
  args x := [.dat (.p (.int .i64) (.int .u64)) x.1, .dat (.int .i64) x.2]
  hin x := []
  F x := f180 x.1 x.2
  ret y := [.raw true [(.d (.int .i64) y.1), (.d (.int .u64) y.2.1)], .dat (.int .u64) y.2.2.1, .dat (.int .u64) y.2.2.2]
  hout y := []
  nout := 0
theorem C180_vc (a : Int × Int) (n : Int) (y : Int × Int × Int × Int) (hF : f180 a n = some y) : vc Tryz.prog tab Tryz.f180.ntmps 0 (match Tryz.f180.body with | some c => c | none => .skip) (retK tab C180 Tryz.f180.results.toList y) (C180.shIn (a, n)).st := by
  unfold f180 at hF
  refine Or.inl ?_
  refine Or.inl ?_
  refine Exists.intro (.take 0 (.take 1 (.take 2 (.take 3 (.take 4 (.take 5 (.take 6 .done))))))) (Exists.intro [] (Exists.intro [] (And.intro rfl ?_)))
  refine Or.inl ?_
  refine Or.inl ?_
  refine condI hF (fun hF => ?_) (fun hF => ?_)
  · refine Or.inl ?_
    refine Or.inl ?_
    refine Exists.intro (.take 0 (.take 1 (.take 2 (.take 3 (.take 4 (.take 5 (.take 6 (.take 7 (.take 8 (.alt 9 (.alt 10 .done .done) .done)))))))))) (Exists.intro [] (Exists.intro [] (And.intro rfl ?_)))
    refine And.intro (by decide) ?_
    refine guardI hF (fun hF => ?_)
    refine And.intro trivial ?_
    refine And.intro trivial ?_
    refine Or.inl ?_
    refine Or.inl ?_
    refine Exists.intro (.take 0 (.take 1 (.take 2 (.take 3 (.take 4 (.take 5 (.take 6 (.take 7 (.take 8 (.take 9 (.take 10 (.take 11 (.take 12 (.alt 13 (.take 14 (.take 15 .done)) .done)))))))))))))) (Exists.intro [] (Exists.intro [] (And.intro rfl ?_)))
    refine guardI hF (fun hF => ?_)
    refine guardI hF (fun hF => ?_)
    refine guardI hF (fun hF => ?_)
    refine And.intro trivial ?_
    refine Or.inl ?_
    have hy := someE hF
    subst hy
    refine And.intro rfl (Exists.intro [] (Exists.intro [] (Exists.intro [] (Exists.intro [] (Exists.intro [] (And.intro rfl (And.intro rfl (And.intro rfl (And.intro (And.intro rfl trivial) trivial)))))))))
  · refine Or.inl ?_
    refine Exists.intro (.take 0 (.take 1 (.take 2 (.take 3 (.take 4 (.take 5 (.take 6 (.take 7 (.take 8 (.take 9 (.take 10 (.take 11 (.take 12 (.take 13 (.take 14 (.take 15 (.take 16 (.alt 17 (.take 18 (.take 19 .done)) .done)))))))))))))))))) (Exists.intro [] (Exists.intro [] (And.intro rfl ?_)))
    refine guardI hF (fun hF => ?_)
    refine guardI hF (fun hF => ?_)
    refine guardI hF (fun hF => ?_)
    refine guardI hF (fun hF => ?_)
    refine And.intro trivial ?_
    refine Or.inl ?_
    have hy := someE hF
    subst hy
    refine And.intro rfl (Exists.intro [] (Exists.intro [] (Exists.intro [] (Exists.intro [] (Exists.intro [] (And.intro rfl (And.intro rfl (And.intro rfl (And.intro (And.intro rfl trivial) trivial)))))))))
theorem C180_holds : C180.Holds Tryz.prog 180 := holds_of_vc tab_ok mixed (fn := Tryz.f180) (by kernel_rfl) rfl C180 (fun x y hF => C180_vc x.1 x.2 y hF)
theorem f180_in : ∃ fn, Tryz.prog.funcs[180]? = some fn ∧ fn.body.isSome = true ∧ (fn.name == "runtime.NumGoroutine") = false := ⟨Tryz.f180, by kernel_rfl, by kernel_rfl, by kernel_rfl⟩
end Go.Proofs
namespace Go.Proofs
open Go.AM
-- carousel/wide.Of
def f101 (n : Int) : Option (Int × Int) :=
  some ((Int.fdiv n (2 ^ min (Int.toNat (63 : Int)) (IntKind.bits IntKind.i64))), (IntKind.u64.wrap n))
def C101 : Con where
  X := Int
  Y := Int × Int
  e := 0
  args x := [.dat (.int .i64) x]
  hin x := []
  F x := f101 x
  ret y := [.raw true [(.d (.int .i64) y.1), (.d (.int .u64) y.2)]]
  hout y := []
  nout := 0
theorem C101_vc (n : Int) (y : Int × Int) (hF : f101 n = some y) : vc Tryz.prog tab Tryz.f101.ntmps 0 (match Tryz.f101.body with | some c => c | none => .skip) (retK tab C101 Tryz.f101.results.toList y) (C101.shIn n).st := by
  unfold f101 at hF
  refine Or.inl ?_
  refine Or.inl ?_
  refine And.intro (by decide) ?_
  refine Or.inl ?_
  have hy := someE hF
  subst hy
  refine And.intro rfl (Exists.intro [] (Exists.intro [] (Exists.intro [] (Exists.intro [] (Exists.intro [] (And.intro rfl (And.intro (And.intro rfl trivial) trivial)))))))
theorem C101_holds : C101.Holds Tryz.prog 101 := holds_of_vc tab_ok mixed (fn := Tryz.f101) (by kernel_rfl) rfl C101 (fun x y hF => C101_vc x y hF)
theorem f101_in : ∃ fn, Tryz.prog.funcs[101]? = some fn ∧ fn.body.isSome = true ∧ (fn.name == "runtime.NumGoroutine") = false := ⟨Tryz.f101, by kernel_rfl, by kernel_rfl, by kernel_rfl⟩
end Go.Proofs
namespace Go.Proofs
open Go.AM
-- carousel/wide.Add
def f137 (a : Int × Int) (b : Int × Int) : Option (Int × Int) :=
  bindF (add64 a.2 b.2 (0 : Int)) fun r1 =>
  bindF (add64 (IntKind.u64.wrap a.1) (IntKind.u64.wrap b.1) r1.2) fun r2 =>
  some ((IntKind.i64.wrap r2.1), r1.1)
def C137 : Con where
  X := (Int × Int) × (Int × Int)
  Y := Int × Int
  e := 0
  args x := [.dat (.p (.int .i64) (.int .u64)) x.1, .dat (.p (.int .i64) (.int .u64)) x.2]
  hin x := []
  F x := f137 x.1 x.2
  ret y := [.raw true [(.d (.int .i64) y.1), (.d (.int .u64) y.2)]]
  hout y := []
  nout := 0
theorem C137_vc (a : Int × Int) (b : Int × Int) (y : Int × Int) (hF : f137 a b = some y) : vc Tryz.prog tab Tryz.f137.ntmps 0 (match Tryz.f137.body with | some c => c | none => .skip) (retK tab C137 Tryz.f137.results.toList y) (C137.shIn (a, b)).st := by
  unfold f137 at hF
  refine Or.inl ?_
  refine Or.inl ?_
  obtain ⟨r1, hr1, hF⟩ := bindE hF
  refine Or.inr ⟨ext3 add64, [r1.1, r1.2], add64_ok, And.intro (ext3I hr1) ?_⟩
  refine Or.inl ?_
  obtain ⟨r2, hr2, hF⟩ := bindE hF
  refine Or.inr ⟨ext3 add64, [r2.1, r2.2], add64_ok, And.intro (ext3I hr2) ?_⟩
  refine Or.inl ?_
  refine Or.inl ?_
  have hy := someE hF
  subst hy
  refine And.intro rfl (Exists.intro [] (Exists.intro [] (Exists.intro [] (Exists.intro [] (Exists.intro [] (And.intro rfl (And.intro (And.intro rfl trivial) trivial)))))))
theorem C137_holds : C137.Holds Tryz.prog 137 := holds_of_vc tab_ok mixed (fn := Tryz.f137) (by kernel_rfl) rfl C137 (fun x y hF => C137_vc x.1 x.2 y hF)
theorem f137_in : ∃ fn, Tryz.prog.funcs[137]? = some fn ∧ fn.body.isSome = true ∧ (fn.name == "runtime.NumGoroutine") = false := ⟨Tryz.f137, by kernel_rfl, by kernel_rfl, by kernel_rfl⟩
end Go.Proofs
namespace Go.Proofs
open Go.AM
-- carousel/wide.Shift
def f168_j1 (n : Int) : Option (Sum Unit Unit) :=
  bif (decide (n < (1 : Int))) then
    some (Sum.inr ())
  else
    bif (decide (n > (126 : Int))) then
      some (Sum.inr ())
    else
      some (Sum.inl ())
def f168_j2 (q5_3 : Int × Int × Int × Int) : Option Bool :=
  bif (decide (q5_3.2.2.1 > (9223372036854775808 : Int))) then
    some true
  else
    bif (q5_3.2.2.1 == (9223372036854775808 : Int)) then
      bif (decide (q5_3.2.2.2 > (0 : Int))) then
        some true
      else
        some ((bitsOf IntKind.u64 (fun p q => p &&& q) q5_3.2.1 (1 : Int)) == (1 : Int))
    else
      some false
def f168 (a : Int × Int) (n : Int) : Option (Int × Int) :=
  bindF (f168_j1 n) fun z1 =>
  sumF z1 (fun z1a =>
    bindF (f180 (a.1, a.2) n) fun q5_3 =>
    bindF (f168_j2 q5_3) fun z2 =>
    bif z2 then
      bindF (f101 (1 : Int)) fun q5_1 =>
      bindF (f137 (q5_3.1, q5_3.2.1) (q5_1.1, q5_1.2)) fun q5_2 =>
      some (q5_2.1, q5_2.2)
    else
      some (q5_3.1, q5_3.2.1)) (fun z1b =>
    some (a.1, a.2))
def C168 : Con where
  X := (Int × Int) × Int
  Y := Int × Int
  e := 0
  args x := [.dat (.p (.int .i64) (.int .u64)) x.1, .dat (.int .i64) x.2]
  hin x := []
  F x := f168 x.1 x.2
  ret y := [.raw true [(.d (.int .i64) y.1), (.d (.int .u64) y.2)]]
  hout y := []
  nout := 0
theorem C168_vc (a : Int × Int) (n : Int) (y : Int × Int) (hF : f168 a n = some y) : vc Tryz.prog tab Tryz.f168.ntmps 0 (match Tryz.f168.body with | some c => c | none => .skip) (retK tab C168 Tryz.f168.results.toList y) (C168.shIn (a, n)).st := by
  unfold f168 at hF
  refine Or.inl ?_
  obtain ⟨z1, hz1, hF⟩ := bindE hF
  refine Or.inr ⟨Sum.elim (fun z1a => [(0, ⟨[(1, .dat (.int .i64) n), (2, .raw false [(.ptr 0 0)]), (4, .raw false [(.ptr 1 0)])], [(0, .cells [(.d (.int .i64) a.1), (.d (.int .u64) a.2)]), (1, .cells [(.d (.int .i64) (0 : Int)), (.d (.int .u64) (0 : Int))])], 2⟩)]) (fun z1b => [(1, ⟨[(4, .raw false [(.ptr 0 0)])], [(0, .cells [(.d (.int .i64) a.1), (.d (.int .u64) a.2)])], 1⟩)]) z1, ?_, ?_⟩
  · have hF := hz1
    clear hz1
    unfold f168_j1 at hF
    refine Or.inl ?_
    refine condN hF (fun hF => ?_) (fun hF => ?_)
    · refine gdYF ?_
      refine condF ?_
      refine condI hF (fun hF => ?_) (fun hF => ?_)
      · refine Or.inl ?_
        refine Or.inl ?_
        have hz := someE hF
        subst hz
        refine Exists.intro [] (Exists.intro [] (Exists.intro [] (Exists.intro [] (Exists.intro [(0, some 1)] (And.intro rfl (And.intro (And.intro rfl trivial) (And.intro rfl trivial)))))))
      · have hz := someE hF
        subst hz
        refine Exists.intro [] (Exists.intro [] (Exists.intro [] (Exists.intro [] (Exists.intro [(0, some 0), (1, some 1)] (And.intro rfl (And.intro rfl (And.intro (And.intro rfl (And.intro rfl trivial)) (And.intro rfl (And.intro rfl trivial)))))))))
    · refine gdNF ?_
      refine condT ?_
      refine condT ?_
      refine Or.inl ?_
      refine Or.inl ?_
      have hz := someE hF
      subst hz
      refine Exists.intro [] (Exists.intro [] (Exists.intro [] (Exists.intro [] (Exists.intro [(0, some 1)] (And.intro rfl (And.intro (And.intro rfl trivial) (And.intro rfl trivial)))))))
  · rcases z1 with z1a | z1b
    · dsimp only [sumF] at hF
      refine And.intro ?_ trivial
      refine Or.inl ?_
      obtain ⟨q5_3, hq5_3, hF⟩ := bindE hF
      refine Or.inl (And.intro f180_in (callV0 (callI C180 ((a.1, a.2), n) q5_3 [] false C180_holds hq5_3 rfl rfl ?_)))
      refine (And.intro rfl (And.intro rfl (And.intro rfl (And.intro (fun h => nomatch h) (And.intro rfl (And.intro rfl (And.intro trivial (And.intro trivial ?_))))))))
      refine Or.inl ?_
      refine Or.inl ?_
      obtain ⟨z2, hz2, hF⟩ := bindE hF
      refine Or.inr ⟨[(0, ⟨[(4, .raw false [(.ptr 0 0)]), (5, .raw false [(.ptr 1 0)]), (37, .dat .bool z2)], [(0, .cells [(.d (.int .i64) (0 : Int)), (.d (.int .u64) (0 : Int))]), (1, .cells [(.d (.int .i64) q5_3.1), (.d (.int .u64) q5_3.2.1)])], 2⟩)], ?_, ?_⟩
      · have hF := hz2
        clear hz2
        unfold f168_j2 at hF
        refine condN hF (fun hF => ?_) (fun hF => ?_)
        · refine gdYF ?_
          refine gdYF ?_
          refine condI hF (fun hF => ?_) (fun hF => ?_)
          · refine gdYT ?_
            refine gdYT ?_
            refine condN hF (fun hF => ?_) (fun hF => ?_)
            · refine gdYF ?_
              refine gdYF ?_
              refine gdYF ?_
              refine gdYT ?_
              refine condF ?_
              refine gdYF ?_
              refine condT ?_
              refine condF ?_
              have hz := someE hF
              subst hz
              refine Exists.intro [] (Exists.intro [] (Exists.intro [] (Exists.intro [] (Exists.intro [(0, some 1), (1, some 2)] (And.intro rfl (And.intro rfl (And.intro (And.intro rfl (And.intro rfl trivial)) (And.intro rfl (And.intro rfl trivial)))))))))
            · refine gdNF ?_
              refine gdNF ?_
              refine gdNF ?_
              refine gdYT ?_
              refine condT ?_
              refine gdYF ?_
              refine condT ?_
              refine condF ?_
              have hz := someE hF
              subst hz
              refine Exists.intro [] (Exists.intro [] (Exists.intro [] (Exists.intro [] (Exists.intro [(0, some 1), (1, some 2)] (And.intro rfl (And.intro rfl (And.intro (And.intro rfl (And.intro rfl trivial)) (And.intro rfl (And.intro rfl trivial)))))))))
          · refine gdNT ?_
            refine gdNT ?_
            refine gdNT ?_
            refine gdYF ?_
            refine condF ?_
            refine condF ?_
            have hz := someE hF
            subst hz
            refine Exists.intro [] (Exists.intro [] (Exists.intro [] (Exists.intro [] (Exists.intro [(0, some 1), (1, some 2)] (And.intro rfl (And.intro rfl (And.intro (And.intro rfl (And.intro rfl trivial)) (And.intro rfl (And.intro rfl trivial)))))))))
        · refine gdNF ?_
          refine gdNF ?_
          refine gdNF ?_
          refine condT ?_
          have hz := someE hF
          subst hz
          refine Exists.intro [] (Exists.intro [] (Exists.intro [] (Exists.intro [] (Exists.intro [(0, some 1), (1, some 2)] (And.intro rfl (And.intro rfl (And.intro (And.intro rfl (And.intro rfl trivial)) (And.intro rfl (And.intro rfl trivial)))))))))
      · refine And.intro ?_ trivial
        refine condI hF (fun hF => ?_) (fun hF => ?_)
        · refine Or.inl ?_
          refine Exists.intro (.take 0 (.alt 1 (.alt 2 (.alt 3 .done .done) .done) .done)) (Exists.intro [] (Exists.intro [] (And.intro rfl ?_)))
          refine And.intro trivial ?_
          obtain ⟨q5_1, hq5_1, hF⟩ := bindE hF
          refine Or.inl (And.intro f101_in (callV0 (callI C101 (1 : Int) q5_1 [] false C101_holds hq5_1 rfl rfl ?_)))
          refine (And.intro rfl (And.intro (fun h => nomatch h) (And.intro rfl (And.intro rfl (And.intro trivial (And.intro trivial ?_))))))
          refine And.intro trivial ?_
          obtain ⟨q5_2, hq5_2, hF⟩ := bindE hF
          refine Or.inl (And.intro f137_in (callV0 (callI C137 ((q5_3.1, q5_3.2.1), (q5_1.1, q5_1.2)) q5_2 [] false C137_holds hq5_2 rfl rfl ?_)))
          refine (And.intro rfl (And.intro rfl (And.intro rfl (And.intro rfl (And.intro (fun h => nomatch h) (And.intro rfl (And.intro rfl (And.intro trivial (And.intro trivial ?_)))))))))
          refine And.intro trivial ?_
          refine Or.inl ?_
          have hy := someE hF
          subst hy
          refine And.intro rfl (Exists.intro [] (Exists.intro [] (Exists.intro [] (Exists.intro [] (Exists.intro [] (And.intro rfl (And.intro (And.intro rfl trivial) trivial)))))))
        · refine Or.inl ?_
          refine Or.inl ?_
          have hy := someE hF
          subst hy
          refine And.intro rfl (Exists.intro [] (Exists.intro [] (Exists.intro [] (Exists.intro [] (Exists.intro [] (And.intro rfl (And.intro (And.intro rfl trivial) trivial)))))))
    · dsimp only [sumF] at hF
      refine And.intro ?_ trivial
      have hy := someE hF
      subst hy
      refine And.intro rfl (Exists.intro [] (Exists.intro [] (Exists.intro [] (Exists.intro [] (Exists.intro [] (And.intro rfl (And.intro (And.intro rfl trivial) trivial)))))))
theorem C168_holds : C168.Holds Tryz.prog 168 := holds_of_vc tab_ok mixed (fn := Tryz.f168) (by kernel_rfl) rfl C168 (fun x y hF => C168_vc x.1 x.2 y hF)
theorem f168_in : ∃ fn, Tryz.prog.funcs[168]? = some fn ∧ fn.body.isSome = true ∧ (fn.name == "runtime.NumGoroutine") = false := ⟨Tryz.f168, by kernel_rfl, by kernel_rfl, by kernel_rfl⟩
end Go.Proofs
namespace Go.Proofs
open Go.AM
-- carousel/wide.Fix
def f138_j3 (a : Int × Int) : Option Bool :=
  bif (decide (a.1 > (0 : Int))) then
    some true
  else
    bif (a.1 == (0 : Int)) then
      some (decide (a.2 ≥ (9223372036854775808 : Int)))
    else
      some false
def f138_j2 (a : Int × Int) : Option (Sum Unit Int) :=
  bindF (f138_j3 a) fun z3 =>
  bif z3 then
    some (Sum.inr (9223372036854775807 : Int))
  else
    bif (decide (a.1 < (-1 : Int))) then
      some (Sum.inr (-9223372036854775808 : Int))
    else
      bif (a.1 == (-1 : Int)) then
        bif (decide (a.2 < (9223372036854775808 : Int))) then
          some (Sum.inr (-9223372036854775808 : Int))
        else
          some (Sum.inl ())
      else
        some (Sum.inl ())
def f138 (a : Int × Int) : Option Int :=
  bindF (f138_j2 a) fun z2 =>
  sumF z2 (fun z2a =>
    some (IntKind.i64.wrap a.2)) (fun z2b =>
    some z2b)
def C138 : Con where
  X := Int × Int
  Y := Int
  e := 0
  args x := [.dat (.p (.int .i64) (.int .u64)) x]
  hin x := []
  F x := f138 x
  ret y := [.dat (.int .i64) y]
  hout y := []
  nout := 0
theorem C138_vc (a : Int × Int) (y : Int) (hF : f138 a = some y) : vc Tryz.prog tab Tryz.f138.ntmps 0 (match Tryz.f138.body with | some c => c | none => .skip) (retK tab C138 Tryz.f138.results.toList y) (C138.shIn a).st := by
  unfold f138 at hF
  refine Or.inl ?_
  obtain ⟨z2, hz2, hF⟩ := bindE hF
  refine Or.inr ⟨Sum.elim (fun z2a => [(0, ⟨[(1, .raw false [(.ptr 0 0)])], [(0, .cells [(.d (.int .i64) a.1), (.d (.int .u64) a.2)])], 1⟩)]) (fun z2b => [(1, ⟨[(2, .dat (.int .i64) z2b)], [], 0⟩)]) z2, ?_, ?_⟩
  · have hF := hz2
    clear hz2
    unfold f138_j2 at hF
    obtain ⟨z3, hz3, hF⟩ := bindE hF
    refine Or.inr ⟨[(0, ⟨[(1, .raw false [(.ptr 0 0)]), (3, .dat .bool z3)], [(0, .cells [(.d (.int .i64) a.1), (.d (.int .u64) a.2)])], 1⟩)], ?_, ?_⟩
    · have hF := hz3
      clear hz3
      unfold f138_j3 at hF
      refine condN hF (fun hF => ?_) (fun hF => ?_)
      · refine gdYF ?_
        refine gdYF ?_
        refine gdYF ?_
        refine condI hF (fun hF => ?_) (fun hF => ?_)
        · refine gdYT ?_
          refine gdYT ?_
          refine gdYF ?_
          refine condT ?_
          refine condF ?_
          have hz := someE hF
          subst hz
          refine Exists.intro [] (Exists.intro [] (Exists.intro [] (Exists.intro [] (Exists.intro [(0, some 0)] (And.intro rfl (And.intro rfl (And.intro (And.intro rfl trivial) (And.intro rfl trivial))))))))
        · refine gdNT ?_
          refine gdNT ?_
          refine gdYF ?_
          refine condF ?_
          refine condF ?_
          have hz := someE hF
          subst hz
          refine Exists.intro [] (Exists.intro [] (Exists.intro [] (Exists.intro [] (Exists.intro [(0, some 0)] (And.intro rfl (And.intro rfl (And.intro (And.intro rfl trivial) (And.intro rfl trivial))))))))
      · refine gdNF ?_
        refine gdNF ?_
        refine gdNF ?_
        refine gdNF ?_
        refine condT ?_
        have hz := someE hF
        subst hz
        refine Exists.intro [] (Exists.intro [] (Exists.intro [] (Exists.intro [] (Exists.intro [(0, some 0)] (And.intro rfl (And.intro rfl (And.intro (And.intro rfl trivial) (And.intro rfl trivial))))))))
    · refine And.intro ?_ trivial
      refine condI hF (fun hF => ?_) (fun hF => ?_)
      · refine Or.inl ?_
        have hz := someE hF
        subst hz
        refine Exists.intro [] (Exists.intro [] (Exists.intro [] (Exists.intro [] (Exists.intro [] (And.intro rfl (And.intro rfl (And.intro trivial trivial)))))))
      · refine Or.inl ?_
        refine condN hF (fun hF => ?_) (fun hF => ?_)
        · refine gdYF ?_
          refine gdYF ?_
          refine gdYF ?_
          refine condI hF (fun hF => ?_) (fun hF => ?_)
          · refine gdYT ?_
            refine gdYT ?_
            refine gdYF ?_
            refine condT ?_
            refine condF ?_
            refine condI hF (fun hF => ?_) (fun hF => ?_)
            · refine Or.inl ?_
              have hz := someE hF
              subst hz
              refine Exists.intro [] (Exists.intro [] (Exists.intro [] (Exists.intro [] (Exists.intro [] (And.intro rfl (And.intro rfl (And.intro trivial trivial)))))))
            · have hz := someE hF
              subst hz
              refine Exists.intro [] (Exists.intro [] (Exists.intro [] (Exists.intro [] (Exists.intro [(0, some 0)] (And.intro rfl (And.intro (And.intro rfl trivial) (And.intro rfl trivial)))))))
          · refine gdNT ?_
            refine gdNT ?_
            refine gdYF ?_
            refine condF ?_
            refine condF ?_
            refine condF ?_
            have hz := someE hF
            subst hz
            refine Exists.intro [] (Exists.intro [] (Exists.intro [] (Exists.intro [] (Exists.intro [(0, some 0)] (And.intro rfl (And.intro (And.intro rfl trivial) (And.intro rfl trivial)))))))
        · refine gdNF ?_
          refine gdNF ?_
          refine gdNF ?_
          refine gdNF ?_
          refine condT ?_
          refine condT ?_
          refine Or.inl ?_
          have hz := someE hF
          subst hz
          refine Exists.intro [] (Exists.intro [] (Exists.intro [] (Exists.intro [] (Exists.intro [] (And.intro rfl (And.intro rfl (And.intro trivial trivial)))))))
  · rcases z2 with z2a | z2b
    · dsimp only [sumF] at hF
      refine And.intro ?_ trivial
      refine Or.inl ?_
      have hy := someE hF
      subst hy
      refine And.intro rfl (Exists.intro [] (Exists.intro [] (Exists.intro [] (Exists.intro [] (Exists.intro [] (And.intro rfl (And.intro rfl (And.intro trivial trivial))))))))
    · dsimp only [sumF] at hF
      refine And.intro ?_ trivial
      have hy := someE hF
      subst hy
      refine And.intro rfl (Exists.intro [] (Exists.intro [] (Exists.intro [] (Exists.intro [] (Exists.intro [] (And.intro rfl (And.intro rfl (And.intro trivial trivial))))))))
theorem C138_holds : C138.Holds Tryz.prog 138 := holds_of_vc tab_ok mixed (fn := Tryz.f138) (by kernel_rfl) rfl C138 (fun x y hF => C138_vc x y hF)
theorem f138_in : ∃ fn, Tryz.prog.funcs[138]? = some fn ∧ fn.body.isSome = true ∧ (fn.name == "runtime.NumGoroutine") = false := ⟨Tryz.f138, by kernel_rfl, by kernel_rfl, by kernel_rfl⟩
end Go.Proofs
namespace Go.Proofs
open Go.AM
-- (*carousel/wide.Acc).Fix
def f134 (s_top : Int) (s_low_Hi : Int) (s_low_Lo : Int) (n : Int) : Option (Int × Int × Int × Int) :=
  bif (s_top == (Int.fdiv s_low_Hi (2 ^ min (Int.toNat (63 : Int)) (IntKind.bits IntKind.i64)))) then
    bindF (f168 (s_low_Hi, s_low_Lo) n) fun q1_11 =>
    bindF (f138 (q1_11.1, q1_11.2)) fun r1 =>
    some (r1, s_top, s_low_Hi, s_low_Lo)
  else
    bif (decide (s_top < (0 : Int))) then
      some ((-9223372036854775808 : Int), s_top, s_low_Hi, s_low_Lo)
    else
      some ((9223372036854775807 : Int), s_top, s_low_Hi, s_low_Lo)
def C134 : Con where
  X := Int × Int × Int × Int
  Y := Int × Int × Int × Int
  e := 1
  args x := [.raw false [(.ptr 0 0)], .dat (.int .i64) x.2.2.2]
  hin x := [(0, .cells [(.d (.int .i64) x.1), (.d (.int .i64) x.2.1), (.d (.int .u64) x.2.2.1)])]
  F x := f134 x.1 x.2.1 x.2.2.1 x.2.2.2
  ret y := [.dat (.int .i64) y.1]
  hout y := [(0, .cells [(.d (.int .i64) y.2.1), (.d (.int .i64) y.2.2.1), (.d (.int .u64) y.2.2.2)])]
  nout := 1
theorem C134_vc (s_top : Int) (s_low_Hi : Int) (s_low_Lo : Int) (n : Int) (y : Int × Int × Int × Int) (hF : f134 s_top s_low_Hi s_low_Lo n = some y) : vc Tryz.prog tab Tryz.f134.ntmps 1 (match Tryz.f134.body with | some c => c | none => .skip) (retK tab C134 Tryz.f134.results.toList y) (C134.shIn (s_top, s_low_Hi, s_low_Lo, n)).st := by
  unfold f134 at hF
  refine Or.inl ?_
  refine Or.inl ?_
  refine Or.inl ?_
  refine Exists.intro (.take 0 (.take 1 (.take 2 (.take 3 (.take 4 (.take 5 (.take 6 (.take 7 (.take 8 (.take 9 (.take 10 (.take 11 .done)))))))))))) (Exists.intro [] (Exists.intro [] (And.intro rfl ?_)))
  refine And.intro (by decide) ?_
  refine condI hF (fun hF => ?_) (fun hF => ?_)
  · refine Or.inl ?_
    obtain ⟨q1_11, hq1_11, hF⟩ := bindE hF
    refine Or.inl (And.intro f168_in (callV0 (callI C168 ((s_low_Hi, s_low_Lo), n) q1_11 [] false C168_holds hq1_11 rfl rfl ?_)))
    refine (And.intro rfl (And.intro rfl (And.intro rfl (And.intro (fun h => nomatch h) (And.intro rfl (And.intro rfl (And.intro trivial (And.intro trivial ?_))))))))
    obtain ⟨r1, hr1, hF⟩ := bindE hF
    refine Or.inl (And.intro f138_in (callV0 (callI C138 (q1_11.1, q1_11.2) r1 [] false C138_holds hr1 rfl rfl ?_)))
    refine (And.intro rfl (And.intro rfl (And.intro (fun h => nomatch h) (And.intro rfl (And.intro rfl (And.intro trivial (And.intro trivial ?_)))))))
    have hy := someE hF
    subst hy
    refine And.intro rfl (Exists.intro [] (Exists.intro [] (Exists.intro [] (Exists.intro [] (Exists.intro [(0, some 0)] (And.intro rfl (And.intro rfl (And.intro trivial (And.intro rfl trivial)))))))))
  · refine Or.inl ?_
    refine condI hF (fun hF => ?_) (fun hF => ?_)
    · refine Or.inl ?_
      have hy := someE hF
      subst hy
      refine And.intro rfl (Exists.intro [] (Exists.intro [] (Exists.intro [] (Exists.intro [] (Exists.intro [(0, some 0)] (And.intro rfl (And.intro rfl (And.intro trivial (And.intro rfl trivial)))))))))
    · refine Or.inl ?_
      have hy := someE hF
      subst hy
      refine And.intro rfl (Exists.intro [] (Exists.intro [] (Exists.intro [] (Exists.intro [] (Exists.intro [(0, some 0)] (And.intro rfl (And.intro rfl (And.intro trivial (And.intro rfl trivial)))))))))
theorem C134_holds : C134.Holds Tryz.prog 134 := holds_of_vc tab_ok mixed (fn := Tryz.f134) (by kernel_rfl) rfl C134 (fun x y hF => C134_vc x.1 x.2.1 x.2.2.1 x.2.2.2 y hF)
theorem f134_in : ∃ fn, Tryz.prog.funcs[134]? = some fn ∧ fn.body.isSome = true ∧ (fn.name == "runtime.NumGoroutine") = false := ⟨Tryz.f134, by kernel_rfl, by kernel_rfl, by kernel_rfl⟩
end Go.Proofs
namespace Go.Proofs
open Go.AM
-- carousel/matm.Dot
def f129_l1 (a : List Int) (b : List Int) (go : (Int × Int × Int × Int) → Option (Int × Int × Int)) (v12 : Int) (c0_0 : Int) (c0_1 : Int) (c0_2 : Int) : Option (Int × Int × Int) :=
  bif (decide (v12 < (if (List.length b : Int) < (List.length a : Int) then (List.length b : Int) else (List.length a : Int)))) then
    guardF (0 ≤ v12 ∧ v12 < (List.length a : Int)) <|
    guardF (0 ≤ v12 ∧ v12 < (List.length b : Int)) <|
    bindF (f133 c0_0 c0_1 c0_2 (rd (0 : Int) a v12) (rd (0 : Int) b v12)) fun q5_8 =>
    go ((IntKind.i64.wrap (v12 + (1 : Int))), q5_8.1, q5_8.2.1, q5_8.2.2)
  else
    some (c0_0, c0_1, c0_2)
def f129 (a : List Int) (b : List Int) : Option Int :=
  bindF (loopF (fun go x => f129_l1 a b go x.1 x.2.1 x.2.2.1 x.2.2.2) fuelN ((0 : Int), (0 : Int), (0 : Int), (0 : Int))) fun z1 =>
  bindF (f134 z1.1 z1.2.1 z1.2.2 (32 : Int)) fun r2 =>
  some r2.1
def C129 : Con where
  X := (List Int) × (List Int)
  Y := Int
  e := 0
  args x := [.dat (.sl (.int .i64)) x.1, .dat (.sl (.int .i64)) x.2]
  hin x := []
  F x := f129 x.1 x.2
  ret y := [.dat (.int .i64) y]
  hout y := []
  nout := 0
theorem C129_vc (a : List Int) (b : List Int) (y : Int) (hF : f129 a b = some y) : vc Tryz.prog tab Tryz.f129.ntmps 0 (match Tryz.f129.body with | some c => c | none => .skip) (retK tab C129 Tryz.f129.results.toList y) (C129.shIn (a, b)).st := by
  unfold f129 at hF
  refine Or.inl ?_
  refine Or.inl ?_
  refine Or.inl ?_
  refine Or.inl ?_
  obtain ⟨z1, hz1, hF⟩ := bindE hF
  refine loopI (Int × Int × Int × Int) (Int × Int × Int) (fun x => ⟨[(0, .dat (.sl (.int .i64)) a), (1, .dat (.sl (.int .i64)) b), (5, .raw false [(.ptr 0 0)]), (11, .dat (.int .i64) (if (List.length b : Int) < (List.length a : Int) then (List.length b : Int) else (List.length a : Int))), (12, .dat (.int .i64) x.1)], [(0, .cells [(.d (.int .i64) x.2.1), (.d (.int .i64) x.2.2.1), (.d (.int .u64) x.2.2.2)])], 1⟩) (fun z => [(2, ⟨[(5, .raw false [(.ptr 0 0)])], [(0, .cells [(.d (.int .i64) z.1), (.d (.int .i64) z.2.1), (.d (.int .u64) z.2.2)])], 1⟩)]) (loopF (fun go x => f129_l1 a b go x.1 x.2.1 x.2.2.1 x.2.2.2)) fuelN ((0 : Int), (0 : Int), (0 : Int), (0 : Int)) z1 (And.intro hz1 (And.intro (Exists.intro [] (Exists.intro [] (Exists.intro [] (Exists.intro [] (Exists.intro [(0, some 0)] (And.intro rfl (And.intro rfl (And.intro rfl (And.intro rfl (And.intro rfl (And.intro (And.intro rfl trivial) (And.intro rfl trivial)))))))))))) (And.intro (fun _ _ h => loopZ h) (And.intro (fun m => curI (fun v12 => curI (fun c0_0 => curI (fun c0_1 => fun c0_2 z hF => ?_)))) ?_))))
  · have hF : f129_l1 a b (loopF (fun go x => f129_l1 a b go x.1 x.2.1 x.2.2.1 x.2.2.2) m) v12 c0_0 c0_1 c0_2 = some z := hF
    unfold f129_l1 at hF
    refine Or.inl ?_
    refine Or.inl ?_
    refine condI hF (fun hF => ?_) (fun hF => ?_)
    · refine Or.inl ?_
      refine Or.inl ?_
      refine Exists.intro (.take 0 (.take 1 (.take 2 (.take 3 (.take 4 (.take 5 (.take 6 (.take 7 (.alt 8 .done .done))))))))) (Exists.intro [] (Exists.intro [] (And.intro rfl ?_)))
      refine guardI hF (fun hF => ?_)
      refine guardI hF (fun hF => ?_)
      refine And.intro trivial ?_
      obtain ⟨q5_8, hq5_8, hF⟩ := bindE hF
      refine Or.inl (And.intro f133_in (callV0 (callI C133 (c0_0, c0_1, c0_2, (rd (0 : Int) a v12), (rd (0 : Int) b v12)) q5_8 [(0, some 0)] false C133_holds hq5_8 rfl rfl ?_)))
      refine (And.intro rfl (And.intro rfl (And.intro (fun h => nomatch h) (And.intro rfl (And.intro rfl (And.intro (And.intro rfl trivial) (And.intro (And.intro rfl trivial) ?_)))))))
      refine Exists.intro ((IntKind.i64.wrap (v12 + (1 : Int))), q5_8.1, q5_8.2.1, q5_8.2.2) (And.intro hF (Exists.intro [] (Exists.intro [] (Exists.intro [] (Exists.intro [] (Exists.intro [(0, some 0)] (And.intro rfl (And.intro rfl (And.intro rfl (And.intro rfl (And.intro rfl (And.intro (And.intro rfl trivial) (And.intro rfl trivial)))))))))))))
    · have hz := someE hF
      subst hz
      refine Exists.intro [] (Exists.intro [] (Exists.intro [] (Exists.intro [] (Exists.intro [(0, some 0)] (And.intro rfl (And.intro (And.intro rfl trivial) (And.intro rfl trivial)))))))
  · refine And.intro ?_ trivial
    refine Or.inl ?_
    obtain ⟨r2, hr2, hF⟩ := bindE hF
    refine Or.inl (And.intro f134_in (callV0 (callI C134 (z1.1, z1.2.1, z1.2.2, (32 : Int)) r2 [(0, some 0)] false C134_holds hr2 rfl rfl ?_)))
    refine (And.intro rfl (And.intro (fun h => nomatch h) (And.intro rfl (And.intro rfl (And.intro (And.intro rfl trivial) (And.intro (And.intro rfl trivial) ?_))))))
    have hy := someE hF
    subst hy
    refine And.intro rfl (Exists.intro [] (Exists.intro [] (Exists.intro [] (Exists.intro [] (Exists.intro [] (And.intro rfl (And.intro rfl (And.intro trivial trivial))))))))
theorem C129_holds : C129.Holds Tryz.prog 129 := holds_of_vc tab_ok mixed (fn := Tryz.f129) (by kernel_rfl) rfl C129 (fun x y hF => C129_vc x.1 x.2 y hF)
theorem f129_in : ∃ fn, Tryz.prog.funcs[129]? = some fn ∧ fn.body.isSome = true ∧ (fn.name == "runtime.NumGoroutine") = false := ⟨Tryz.f129, by kernel_rfl, by kernel_rfl, by kernel_rfl⟩
end Go.Proofs
namespace Go.Proofs
open Go.AM
-- carousel/matm.Mul
def f84_j4 (a : (List Int) × (List Int)) (b : (List Int) × (List Int)) : Option Bool :=
  bindF (f33 (a.1, a.2)) fun r9 =>
  bif (!r9) then
    some true
  else
    bindF (f33 (b.1, b.2)) fun r10 =>
    some (!r10)
def f84_j5 (a : (List Int) × (List Int)) (b : (List Int) × (List Int)) : Option Bool :=
  bindF (f128 (a.1, a.2)) fun q3_1 =>
  bif (!q3_1) then
    some true
  else
    bindF (f128 (b.1, b.2)) fun q3_5 =>
    bif (!q3_5) then
      some true
    else
      guardF (0 ≤ (1 : Int) ∧ (1 : Int) < (List.length a.1 : Int)) <|
      guardF (0 ≤ (0 : Int) ∧ (0 : Int) < (List.length b.1 : Int)) <|
      some ((rd (0 : Int) a.1 (1 : Int)) != (rd (0 : Int) b.1 (0 : Int)))
def f84_j3 (a : (List Int) × (List Int)) (b : (List Int) × (List Int)) : Option (Sum Unit Int) :=
  bindF (f84_j4 a b) fun z8 =>
  bif z8 then
    some (Sum.inr (1 : Int))
  else
    bindF (f84_j5 a b) fun z11 =>
    bif z11 then
      some (Sum.inr (4 : Int))
    else
      some (Sum.inl ())
def f84_l9 (a : (List Int) × (List Int)) (b : (List Int) × (List Int)) (r12 : Int × (List Int) × (List Int)) (v74 : Int) (go : (Int × (List Int)) → Option (List Int)) (v78 : Int) (l5_2 : List Int) : Option (List Int) :=
  bif (decide (v78 < (rd (0 : Int) b.1 (1 : Int)))) then
    guardF (0 ≤ (IntKind.i64.wrap (v74 * (rd (0 : Int) a.1 (1 : Int)))) ∧ (IntKind.i64.wrap (v74 * (rd (0 : Int) a.1 (1 : Int)))) ≤ (IntKind.i64.wrap ((IntKind.i64.wrap (v74 + (1 : Int))) * (rd (0 : Int) a.1 (1 : Int)))) ∧ (IntKind.i64.wrap ((IntKind.i64.wrap (v74 + (1 : Int))) * (rd (0 : Int) a.1 (1 : Int)))) ≤ (List.length a.2 : Int)) <|
    guardF (0 ≤ (IntKind.i64.wrap (v78 * (rd (0 : Int) a.1 (1 : Int)))) ∧ (IntKind.i64.wrap (v78 * (rd (0 : Int) a.1 (1 : Int)))) ≤ (IntKind.i64.wrap ((IntKind.i64.wrap (v78 + (1 : Int))) * (rd (0 : Int) a.1 (1 : Int)))) ∧ (IntKind.i64.wrap ((IntKind.i64.wrap (v78 + (1 : Int))) * (rd (0 : Int) a.1 (1 : Int)))) ≤ (List.length r12.2.2 : Int)) <|
    bindF (f129 (List.drop (Int.toNat (IntKind.i64.wrap (v74 * (rd (0 : Int) a.1 (1 : Int))))) (List.take (Int.toNat (IntKind.i64.wrap ((IntKind.i64.wrap (v74 + (1 : Int))) * (rd (0 : Int) a.1 (1 : Int))))) a.2)) (List.drop (Int.toNat (IntKind.i64.wrap (v78 * (rd (0 : Int) a.1 (1 : Int))))) (List.take (Int.toNat (IntKind.i64.wrap ((IntKind.i64.wrap (v78 + (1 : Int))) * (rd (0 : Int) a.1 (1 : Int))))) r12.2.2))) fun q16_27 =>
    guardF (0 ≤ (IntKind.i64.wrap ((IntKind.i64.wrap (v74 * (rd (0 : Int) b.1 (1 : Int)))) + v78)) ∧ (IntKind.i64.wrap ((IntKind.i64.wrap (v74 * (rd (0 : Int) b.1 (1 : Int)))) + v78)) < (List.length l5_2 : Int)) <|
    go ((IntKind.i64.wrap (v78 + (1 : Int))), (List.set l5_2 (Int.toNat (IntKind.i64.wrap ((IntKind.i64.wrap (v74 * (rd (0 : Int) b.1 (1 : Int)))) + v78))) q16_27))
  else
    some l5_2
def f84_l8 (a : (List Int) × (List Int)) (b : (List Int) × (List Int)) (r12 : Int × (List Int) × (List Int)) (go : (Int × (List Int)) → Option (List Int)) (v74 : Int) (l5 : List Int) : Option (List Int) :=
  bif (decide (v74 < (rd (0 : Int) a.1 (0 : Int)))) then
    bindF (loopF (fun go x => f84_l9 a b r12 v74 go x.1 x.2) fuelN ((0 : Int), l5)) fun z16 =>
    go ((IntKind.i64.wrap (v74 + (1 : Int))), z16)
  else
    some l5
def f84 (a : (List Int) × (List Int)) (b : (List Int) × (List Int)) : Option (Int × (List Int) × (List Int)) :=
  bindF (f84_j3 a b) fun z6 =>
  sumF z6 (fun z6a =>
    guardF (0 ≤ (0 : Int) ∧ (0 : Int) < (List.length a.1 : Int)) <|
    guardF (0 ≤ (1 : Int) ∧ (1 : Int) < (List.length a.1 : Int)) <|
    guardF (0 ≤ (1 : Int) ∧ (1 : Int) < (List.length b.1 : Int)) <|
    bindF (f36 ([(rd (0 : Int) a.1 (0 : Int)), (rd (0 : Int) b.1 (1 : Int))]) (0 : Int)) fun q5_14 =>
    bif (q5_14.1 != (0 : Int)) then
      some ((2 : Int), [], [])
    else
      bindF (f87 (b.1, b.2)) fun r12 =>
      bindF (loopF (fun go x => f84_l8 a b r12 go x.1 x.2) fuelN ((0 : Int), q5_14.2.2)) fun z15 =>
      some ((0 : Int), q5_14.2.1, z15)) (fun z6b =>
    some (z6b, [], []))
def C84 : Con where
  X := ((List Int) × (List Int)) × ((List Int) × (List Int))
  Y := Int × (List Int) × (List Int)
  e := 0
  args x := [.dat (.p (.sl (.int .i64)) (.sl (.int .i64))) x.1, .dat (.p (.sl (.int .i64)) (.sl (.int .i64))) x.2]
  hin x := []
  F x := f84 x.1 x.2
  ret y := [.raw true [(.osl 0), (.osl 1)], .dat (.int .i64) y.1]
  hout y := [(0, .arr 3 (.int .i64) y.2.1), (1, .arr 33 (.int .i64) y.2.2)]
  nout := 2
theorem C84_vc (a : (List Int) × (List Int)) (b : (List Int) × (List Int)) (y : Int × (List Int) × (List Int)) (hF : f84 a b = some y) : vc Tryz.prog tab Tryz.f84.ntmps 0 (match Tryz.f84.body with | some c => c | none => .skip) (retK tab C84 Tryz.f84.results.toList y) (C84.shIn (a, b)).st := by
  unfold f84 at hF
  refine Or.inl ?_
  obtain ⟨z6, hz6, hF⟩ := bindE hF
  refine Or.inr ⟨Sum.elim (fun z6a => [(0, ⟨[(2, .raw false [(.ptr 0 0)]), (3, .raw false [(.ptr 1 0)]), (4, .raw false [(.ptr 2 0)])], [(0, .cells [(.d (.sl (.int .i64)) a.1), (.d (.sl (.int .i64)) a.2)]), (1, .cells [(.d (.sl (.int .i64)) b.1), (.d (.sl (.int .i64)) b.2)]), (2, .cells [(.c (.slice none 0 0)), (.c (.slice none 0 0))])], 3⟩)]) (fun z6b => [(1, ⟨[(4, .raw false [(.ptr 0 0)]), (5, .dat (.int .i64) z6b)], [(0, .cells [(.c (.slice none 0 0)), (.c (.slice none 0 0))])], 1⟩)]) z6, ?_, ?_⟩
  · have hF := hz6
    clear hz6
    unfold f84_j3 at hF
    obtain ⟨z8, hz8, hF⟩ := bindE hF
    refine Or.inr ⟨[(0, ⟨[(2, .raw false [(.ptr 0 0)]), (3, .raw false [(.ptr 1 0)]), (4, .raw false [(.ptr 2 0)]), (15, .dat .bool z8)], [(0, .cells [(.d (.sl (.int .i64)) a.1), (.d (.sl (.int .i64)) a.2)]), (1, .cells [(.d (.sl (.int .i64)) b.1), (.d (.sl (.int .i64)) b.2)]), (2, .cells [(.c (.slice none 0 0)), (.c (.slice none 0 0))])], 3⟩)], ?_, ?_⟩
    · have hF := hz8
      clear hz8
      unfold f84_j4 at hF
      obtain ⟨r9, hr9, hF⟩ := bindE hF
      refine Or.inl (And.intro f33_in (callV0 (callI C33 (a.1, a.2) r9 [] false C33_holds hr9 rfl rfl ?_)))
      refine (And.intro rfl (And.intro rfl (And.intro (fun h => nomatch h) (And.intro rfl (And.intro rfl (And.intro trivial (And.intro trivial ?_)))))))
      refine condN hF (fun hF => ?_) (fun hF => ?_)
      · refine gdYF ?_
        obtain ⟨r10, hr10, hF⟩ := bindE hF
        refine Or.inl (And.intro f33_in (callV0 (callI C33 (b.1, b.2) r10 [] false C33_holds hr10 rfl rfl ?_)))
        refine (And.intro rfl (And.intro rfl (And.intro (fun h => nomatch h) (And.intro rfl (And.intro rfl (And.intro trivial (And.intro trivial ?_)))))))
        refine gdYF ?_
        refine condF ?_
        have hz := someE hF
        subst hz
        refine Exists.intro [] (Exists.intro [] (Exists.intro [] (Exists.intro [] (Exists.intro [(0, some 0), (1, some 1), (2, some 2)] (And.intro rfl (And.intro rfl (And.intro (And.intro rfl (And.intro rfl (And.intro rfl trivial))) (And.intro rfl (And.intro rfl (And.intro rfl trivial))))))))))
      · refine gdNF ?_
        refine gdNF ?_
        refine condT ?_
        have hz := someE hF
        subst hz
        refine Exists.intro [] (Exists.intro [] (Exists.intro [] (Exists.intro [] (Exists.intro [(0, some 0), (1, some 1), (2, some 2)] (And.intro rfl (And.intro rfl (And.intro (And.intro rfl (And.intro rfl (And.intro rfl trivial))) (And.intro rfl (And.intro rfl (And.intro rfl trivial))))))))))
    · refine And.intro ?_ trivial
      refine condI hF (fun hF => ?_) (fun hF => ?_)
      · refine Or.inl ?_
        refine Or.inl ?_
        have hz := someE hF
        subst hz
        refine Exists.intro [] (Exists.intro [] (Exists.intro [] (Exists.intro [] (Exists.intro [(0, some 2)] (And.intro rfl (And.intro rfl (And.intro (And.intro rfl trivial) (And.intro rfl trivial))))))))
      · obtain ⟨z11, hz11, hF⟩ := bindE hF
        refine Or.inr ⟨[(0, ⟨[(2, .raw false [(.ptr 0 0)]), (3, .raw false [(.ptr 1 0)]), (4, .raw false [(.ptr 2 0)]), (25, .dat .bool z11)], [(0, .cells [(.d (.sl (.int .i64)) a.1), (.d (.sl (.int .i64)) a.2)]), (1, .cells [(.d (.sl (.int .i64)) b.1), (.d (.sl (.int .i64)) b.2)]), (2, .cells [(.c (.slice none 0 0)), (.c (.slice none 0 0))])], 3⟩)], ?_, ?_⟩
        · have hF := hz11
          clear hz11
          unfold f84_j5 at hF
          refine Exists.intro (.take 0 (.alt 1 (.take 2 (.take 3 (.take 4 (.alt 5 (.take 6 (.take 7 (.take 8 (.take 9 (.take 10 (.take 11 (.take 12 (.take 13 (.take 14 (.take 15 (.take 16 (.take 17 (.take 18 (.take 19 .done)))))))))))))) .done)))) .done)) (Exists.intro [] (Exists.intro [] (And.intro rfl ?_)))
          refine And.intro trivial ?_
          obtain ⟨q3_1, hq3_1, hF⟩ := bindE hF
          refine Or.inl (And.intro f128_in (callV0 (callI C128 (a.1, a.2) q3_1 [] false C128_holds hq3_1 rfl rfl ?_)))
          refine (And.intro rfl (And.intro rfl (And.intro (fun h => nomatch h) (And.intro rfl (And.intro rfl (And.intro trivial (And.intro trivial ?_)))))))
          refine condN hF (fun hF => ?_) (fun hF => ?_)
          · refine And.intro trivial ?_
            refine gdYF ?_
            obtain ⟨q3_5, hq3_5, hF⟩ := bindE hF
            refine Or.inl (And.intro f128_in (callV0 (callI C128 (b.1, b.2) q3_5 [] false C128_holds hq3_5 rfl rfl ?_)))
            refine (And.intro rfl (And.intro rfl (And.intro (fun h => nomatch h) (And.intro rfl (And.intro rfl (And.intro trivial (And.intro trivial ?_)))))))
            refine gdYF ?_
            refine condF ?_
            refine condN hF (fun hF => ?_) (fun hF => ?_)
            · refine gdYF ?_
              refine gdYF ?_
              refine guardI hF (fun hF => ?_)
              refine gdYF ?_
              refine gdYF ?_
              refine gdYF ?_
              refine gdYF ?_
              refine guardI hF (fun hF => ?_)
              refine gdYF ?_
              refine gdYF ?_
              refine condF ?_
              have hz := someE hF
              subst hz
              refine Exists.intro [] (Exists.intro [] (Exists.intro [] (Exists.intro [] (Exists.intro [(0, some 0), (1, some 1), (2, some 2)] (And.intro rfl (And.intro rfl (And.intro (And.intro rfl (And.intro rfl (And.intro rfl trivial))) (And.intro rfl (And.intro rfl (And.intro rfl trivial))))))))))
            · refine gdNF ?_
              refine gdNF ?_
              refine gdNF ?_
              refine gdNF ?_
              refine gdNF ?_
              refine gdNF ?_
              refine gdNF ?_
              refine gdNF ?_
              refine condT ?_
              have hz := someE hF
              subst hz
              refine Exists.intro [] (Exists.intro [] (Exists.intro [] (Exists.intro [] (Exists.intro [(0, some 0), (1, some 1), (2, some 2)] (And.intro rfl (And.intro rfl (And.intro (And.intro rfl (And.intro rfl (And.intro rfl trivial))) (And.intro rfl (And.intro rfl (And.intro rfl trivial))))))))))
          · refine And.intro trivial ?_
            refine gdNF ?_
            refine gdNF ?_
            refine condT ?_
            refine gdNF ?_
            refine gdNF ?_
            refine gdNF ?_
            refine gdNF ?_
            refine gdNF ?_
            refine gdNF ?_
            refine gdNF ?_
            refine gdNF ?_
            refine gdNF ?_
            refine condT ?_
            have hz := someE hF
            subst hz
            refine Exists.intro [] (Exists.intro [] (Exists.intro [] (Exists.intro [] (Exists.intro [(0, some 0), (1, some 1), (2, some 2)] (And.intro rfl (And.intro rfl (And.intro (And.intro rfl (And.intro rfl (And.intro rfl trivial))) (And.intro rfl (And.intro rfl (And.intro rfl trivial))))))))))
        · refine And.intro ?_ trivial
          refine condI hF (fun hF => ?_) (fun hF => ?_)
          · refine Or.inl ?_
            refine Or.inl ?_
            have hz := someE hF
            subst hz
            refine Exists.intro [] (Exists.intro [] (Exists.intro [] (Exists.intro [] (Exists.intro [(0, some 2)] (And.intro rfl (And.intro rfl (And.intro (And.intro rfl trivial) (And.intro rfl trivial))))))))
          · have hz := someE hF
            subst hz
            refine Exists.intro [] (Exists.intro [] (Exists.intro [] (Exists.intro [] (Exists.intro [(0, some 0), (1, some 1), (2, some 2)] (And.intro rfl (And.intro (And.intro rfl (And.intro rfl (And.intro rfl trivial))) (And.intro rfl (And.intro rfl (And.intro rfl trivial)))))))))
  · rcases z6 with z6a | z6b
    · dsimp only [sumF] at hF
      refine And.intro ?_ trivial
      refine Or.inl ?_
      refine Exists.intro (.take 0 (.take 1 (.take 2 (.take 3 (.take 4 (.take 5 (.take 6 (.take 7 (.take 8 (.take 9 (.take 10 (.take 11 (.take 12 (.take 13 (.take 14 .done))))))))))))))) (Exists.intro [] (Exists.intro [] (And.intro rfl ?_)))
      refine guardI hF (fun hF => ?_)
      refine guardI hF (fun hF => ?_)
      refine guardI hF (fun hF => ?_)
      refine Or.inl ?_
      refine Or.inl ?_
      obtain ⟨q5_14, hq5_14, hF⟩ := bindE hF
      refine Or.inl (And.intro f36_in (callV0 (callI C36 ([(rd (0 : Int) a.1 (0 : Int)), (rd (0 : Int) b.1 (1 : Int))], (0 : Int)) q5_14 [] true C36_holds hq5_14 rfl rfl ?_)))
      refine (And.intro rfl (And.intro rfl (And.intro (fun _ => rfl) (And.intro rfl (And.intro rfl (And.intro trivial (And.intro trivial ?_)))))))
      refine Or.inl ?_
      refine Or.inl ?_
      refine Or.inl ?_
      refine condI hF (fun hF => ?_) (fun hF => ?_)
      · refine Or.inl ?_
        refine Or.inl ?_
        have hy := someE hF
        subst hy
        refine And.intro rfl (Exists.intro [] (Exists.intro [] (Exists.intro [] (Exists.intro [] (Exists.intro [(0, none), (1, none)] (And.intro rfl (And.intro rfl (And.intro (And.intro rfl trivial) (And.intro rfl (And.intro rfl trivial))))))))))
      · refine Or.inl ?_
        obtain ⟨r12, hr12, hF⟩ := bindE hF
        refine Or.inl (And.intro f87_in (callV0 (callI C87 (b.1, b.2) r12 [] false C87_holds hr12 rfl rfl ?_)))
        refine (And.intro rfl (And.intro rfl (And.intro (fun h => nomatch h) (And.intro rfl (And.intro rfl (And.intro trivial (And.intro trivial ?_)))))))
        refine Or.inl ?_
        refine Or.inl ?_
        refine Or.inl ?_
        obtain ⟨z15, hz15, hF⟩ := bindE hF
        refine loopI (Int × (List Int)) (List Int) (fun x => ⟨[(2, .raw false [(.ptr 0 0)]), (4, .raw false [(.ptr 1 0)]), (7, .dat (.int .i64) (rd (0 : Int) a.1 (1 : Int))), (8, .dat (.int .i64) (rd (0 : Int) b.1 (1 : Int))), (9, .raw false [(.ptr 2 0)]), (11, .raw false [(.ptr 3 0)]), (73, .dat (.int .i64) (rd (0 : Int) a.1 (0 : Int))), (74, .dat (.int .i64) x.1)], [(0, .cells [(.d (.sl (.int .i64)) a.1), (.d (.sl (.int .i64)) a.2)]), (1, .cells [(.c (.slice none 0 0)), (.c (.slice none 0 0))]), (2, .cells [(.osl 4), (.osl 5)]), (3, .cells [(.osl 6), (.d (.sl (.int .i64)) r12.2.2)]), (4, .arr 3 (.int .i64) q5_14.2.1), (5, .arr 33 (.int .i64) x.2), (6, .arr 3 (.int .i64) r12.2.1)], 7⟩) (fun z => [(3, ⟨[(4, .raw false [(.ptr 0 0)]), (9, .raw false [(.ptr 1 0)])], [(0, .cells [(.c (.slice none 0 0)), (.c (.slice none 0 0))]), (1, .cells [(.osl 2), (.osl 3)]), (2, .arr 3 (.int .i64) q5_14.2.1), (3, .arr 33 (.int .i64) z)], 4⟩)]) (loopF (fun go x => f84_l8 a b r12 go x.1 x.2)) fuelN ((0 : Int), q5_14.2.2) z15 (And.intro hz15 (And.intro (Exists.intro [] (Exists.intro [] (Exists.intro [] (Exists.intro [8] (Exists.intro [(0, some 0), (1, some 2), (2, some 6), (3, some 9), (4, some 4), (5, some 5), (6, some 7)] (And.intro rfl (And.intro rfl (And.intro rfl (And.intro rfl (And.intro rfl (And.intro (And.intro rfl (And.intro rfl (And.intro rfl (And.intro rfl trivial)))) (And.intro rfl (And.intro rfl (And.intro rfl (And.intro rfl (And.intro rfl (And.intro rfl (And.intro rfl trivial)))))))))))))))))) (And.intro (fun _ _ h => loopZ h) (And.intro (fun m => curI (fun v74 => fun l5 z hF => ?_)) ?_))))
        · have hF : f84_l8 a b r12 (loopF (fun go x => f84_l8 a b r12 go x.1 x.2) m) v74 l5 = some z := hF
          unfold f84_l8 at hF
          refine Or.inl ?_
          refine Or.inl ?_
          refine condI hF (fun hF => ?_) (fun hF => ?_)
          · refine Or.inl ?_
            refine Or.inl ?_
            refine Or.inl ?_
            obtain ⟨z16, hz16, hF⟩ := bindE hF
            refine loopI (Int × (List Int)) (List Int) (fun x => ⟨[(2, .raw false [(.ptr 0 0)]), (4, .raw false [(.ptr 1 0)]), (7, .dat (.int .i64) (rd (0 : Int) a.1 (1 : Int))), (8, .dat (.int .i64) (rd (0 : Int) b.1 (1 : Int))), (9, .raw false [(.ptr 2 0)]), (11, .raw false [(.ptr 3 0)]), (13, .dat (.int .i64) v74), (73, .dat (.int .i64) (rd (0 : Int) a.1 (0 : Int))), (74, .dat (.int .i64) v74), (77, .dat (.int .i64) (rd (0 : Int) b.1 (1 : Int))), (78, .dat (.int .i64) x.1)], [(0, .cells [(.d (.sl (.int .i64)) a.1), (.d (.sl (.int .i64)) a.2)]), (1, .cells [(.c (.slice none 0 0)), (.c (.slice none 0 0))]), (2, .cells [(.osl 4), (.osl 5)]), (3, .cells [(.osl 6), (.d (.sl (.int .i64)) r12.2.2)]), (4, .arr 3 (.int .i64) q5_14.2.1), (5, .arr 33 (.int .i64) x.2), (6, .arr 3 (.int .i64) r12.2.1)], 7⟩) (fun z => [(5, ⟨[(2, .raw false [(.ptr 0 0)]), (4, .raw false [(.ptr 1 0)]), (7, .dat (.int .i64) (rd (0 : Int) a.1 (1 : Int))), (8, .dat (.int .i64) (rd (0 : Int) b.1 (1 : Int))), (9, .raw false [(.ptr 2 0)]), (11, .raw false [(.ptr 3 0)]), (73, .dat (.int .i64) (rd (0 : Int) a.1 (0 : Int))), (74, .dat (.int .i64) v74)], [(0, .cells [(.d (.sl (.int .i64)) a.1), (.d (.sl (.int .i64)) a.2)]), (1, .cells [(.c (.slice none 0 0)), (.c (.slice none 0 0))]), (2, .cells [(.osl 4), (.osl 5)]), (3, .cells [(.osl 6), (.d (.sl (.int .i64)) r12.2.2)]), (4, .arr 3 (.int .i64) q5_14.2.1), (5, .arr 33 (.int .i64) z), (6, .arr 3 (.int .i64) r12.2.1)], 7⟩)]) (loopF (fun go x => f84_l9 a b r12 v74 go x.1 x.2)) fuelN ((0 : Int), l5) z16 (And.intro hz16 (And.intro (Exists.intro [] (Exists.intro [] (Exists.intro [] (Exists.intro [] (Exists.intro [(0, some 0), (1, some 1), (2, some 2), (3, some 3), (4, some 4), (5, some 5), (6, some 6)] (And.intro rfl (And.intro rfl (And.intro rfl (And.intro rfl (And.intro rfl (And.intro rfl (And.intro rfl (And.intro rfl (And.intro (And.intro rfl (And.intro rfl (And.intro rfl (And.intro rfl trivial)))) (And.intro rfl (And.intro rfl (And.intro rfl (And.intro rfl (And.intro rfl (And.intro rfl (And.intro rfl trivial))))))))))))))))))))) (And.intro (fun _ _ h => loopZ h) (And.intro (fun m => curI (fun v78 => fun l5_2 z hF => ?_)) ?_))))
            · have hF : f84_l9 a b r12 v74 (loopF (fun go x => f84_l9 a b r12 v74 go x.1 x.2) m) v78 l5_2 = some z := hF
              unfold f84_l9 at hF
              refine Or.inl ?_
              refine Or.inl ?_
              refine condI hF (fun hF => ?_) (fun hF => ?_)
              · refine Or.inl ?_
                refine Or.inl ?_
                refine Exists.intro (.take 0 (.take 1 (.take 2 (.take 3 (.take 4 (.take 5 (.take 6 (.take 7 (.take 8 (.take 9 (.take 10 (.take 11 (.take 12 (.take 13 (.take 14 (.take 15 (.take 16 (.take 17 (.take 18 (.take 19 (.take 20 (.take 21 (.take 22 (.take 23 (.take 24 (.take 25 (.alt 26 (.alt 27 (.take 28 (.alt 29 .done .done)) .done) .done))))))))))))))))))))))))))) (Exists.intro [] (Exists.intro [] (And.intro rfl ?_)))
                refine guardI hF (fun hF => ?_)
                refine And.intro trivial ?_
                refine guardI hF (fun hF => ?_)
                refine And.intro trivial ?_
                obtain ⟨q16_27, hq16_27, hF⟩ := bindE hF
                refine Or.inl (And.intro f129_in (callV0 (callI C129 ((List.drop (Int.toNat (IntKind.i64.wrap (v74 * (rd (0 : Int) a.1 (1 : Int))))) (List.take (Int.toNat (IntKind.i64.wrap ((IntKind.i64.wrap (v74 + (1 : Int))) * (rd (0 : Int) a.1 (1 : Int))))) a.2)), (List.drop (Int.toNat (IntKind.i64.wrap (v78 * (rd (0 : Int) a.1 (1 : Int))))) (List.take (Int.toNat (IntKind.i64.wrap ((IntKind.i64.wrap (v78 + (1 : Int))) * (rd (0 : Int) a.1 (1 : Int))))) r12.2.2))) q16_27 [] false C129_holds hq16_27 rfl rfl ?_)))
                refine (And.intro rfl (And.intro rfl (And.intro (fun h => nomatch h) (And.intro rfl (And.intro rfl (And.intro trivial (And.intro trivial ?_)))))))
                refine guardI hF (fun hF => ?_)
                refine And.intro trivial ?_
                refine Or.inl ?_
                refine Exists.intro ((IntKind.i64.wrap (v78 + (1 : Int))), (List.set l5_2 (Int.toNat (IntKind.i64.wrap ((IntKind.i64.wrap (v74 * (rd (0 : Int) b.1 (1 : Int)))) + v78))) q16_27)) (And.intro hF (Exists.intro [] (Exists.intro [] (Exists.intro [] (Exists.intro [] (Exists.intro [(0, some 0), (1, some 1), (2, some 2), (3, some 3), (4, some 4), (5, some 5), (6, some 6)] (And.intro rfl (And.intro rfl (And.intro rfl (And.intro rfl (And.intro rfl (And.intro rfl (And.intro rfl (And.intro rfl (And.intro (And.intro rfl (And.intro rfl (And.intro rfl (And.intro rfl trivial)))) (And.intro rfl (And.intro rfl (And.intro rfl (And.intro rfl (And.intro rfl (And.intro rfl (And.intro rfl trivial))))))))))))))))))))))
              · have hz := someE hF
                subst hz
                refine Exists.intro [] (Exists.intro [] (Exists.intro [] (Exists.intro [] (Exists.intro [(0, some 0), (1, some 1), (2, some 2), (3, some 3), (4, some 4), (5, some 5), (6, some 6)] (And.intro rfl (And.intro rfl (And.intro rfl (And.intro rfl (And.intro rfl (And.intro (And.intro rfl (And.intro rfl (And.intro rfl (And.intro rfl trivial)))) (And.intro rfl (And.intro rfl (And.intro rfl (And.intro rfl (And.intro rfl (And.intro rfl (And.intro rfl trivial)))))))))))))))))
            · refine And.intro ?_ trivial
              refine Exists.intro ((IntKind.i64.wrap (v74 + (1 : Int))), z16) (And.intro hF (Exists.intro [] (Exists.intro [] (Exists.intro [] (Exists.intro [] (Exists.intro [(0, some 0), (1, some 1), (2, some 2), (3, some 3), (4, some 4), (5, some 5), (6, some 6)] (And.intro rfl (And.intro rfl (And.intro rfl (And.intro rfl (And.intro rfl (And.intro (And.intro rfl (And.intro rfl (And.intro rfl (And.intro rfl trivial)))) (And.intro rfl (And.intro rfl (And.intro rfl (And.intro rfl (And.intro rfl (And.intro rfl (And.intro rfl trivial)))))))))))))))))))
          · have hz := someE hF
            subst hz
            refine Exists.intro [] (Exists.intro [] (Exists.intro [] (Exists.intro [] (Exists.intro [(0, some 1), (1, some 2), (2, some 4), (3, some 5)] (And.intro rfl (And.intro (And.intro rfl (And.intro rfl trivial)) (And.intro rfl (And.intro rfl (And.intro rfl (And.intro rfl trivial))))))))))
        · refine And.intro ?_ trivial
          refine Or.inl ?_
          refine Or.inl ?_
          have hy := someE hF
          subst hy
          refine And.intro rfl (Exists.intro [] (Exists.intro [] (Exists.intro [] (Exists.intro [] (Exists.intro [(0, some 2), (1, some 3)] (And.intro rfl (And.intro rfl (And.intro (And.intro rfl trivial) (And.intro rfl (And.intro rfl trivial))))))))))
    · dsimp only [sumF] at hF
      refine And.intro ?_ trivial
      have hy := someE hF
      subst hy
      refine And.intro rfl (Exists.intro [] (Exists.intro [] (Exists.intro [] (Exists.intro [] (Exists.intro [(0, none), (1, none)] (And.intro rfl (And.intro rfl (And.intro (And.intro rfl trivial) (And.intro rfl (And.intro rfl trivial))))))))))
theorem C84_holds : C84.Holds Tryz.prog 84 := holds_of_vc tab_ok mixed (fn := Tryz.f84) (by kernel_rfl) rfl C84 (fun x y hF => C84_vc x.1 x.2 y hF)
theorem f84_in : ∃ fn, Tryz.prog.funcs[84]? = some fn ∧ fn.body.isSome = true ∧ (fn.name == "runtime.NumGoroutine") = false := ⟨Tryz.f84, by kernel_rfl, by kernel_rfl, by kernel_rfl⟩
end Go.Proofs
namespace Go.Proofs
open Go.AM
-- carousel/conv.stepGood
def f130 (step : Int) : Option Bool :=
  bif (decide (step ≥ (1 : Int))) then
    some (decide (step ≤ (64 : Int)))
  else
    some false
def C130 : Con where
  X := Int
  Y := Bool
  e := 0
  args x := [.dat (.int .i64) x]
  hin x := []
  F x := f130 x
  ret y := [.dat .bool y]
  hout y := []
  nout := 0
theorem C130_vc (step : Int) (y : Bool) (hF : f130 step = some y) : vc Tryz.prog tab Tryz.f130.ntmps 0 (match Tryz.f130.body with | some c => c | none => .skip) (retK tab C130 Tryz.f130.results.toList y) (C130.shIn step).st := by
  unfold f130 at hF
  refine Or.inl ?_
  refine Or.inl ?_
  refine condI hF (fun hF => ?_) (fun hF => ?_)
  · refine gdYT ?_
    refine condT ?_
    have hy := someE hF
    subst hy
    refine And.intro rfl (Exists.intro [] (Exists.intro [] (Exists.intro [] (Exists.intro [] (Exists.intro [] (And.intro rfl (And.intro rfl (And.intro trivial trivial))))))))
  · refine gdNT ?_
    refine condF ?_
    have hy := someE hF
    subst hy
    refine And.intro rfl (Exists.intro [] (Exists.intro [] (Exists.intro [] (Exists.intro [] (Exists.intro [] (And.intro rfl (And.intro rfl (And.intro trivial trivial))))))))
theorem C130_holds : C130.Holds Tryz.prog 130 := holds_of_vc tab_ok mixed (fn := Tryz.f130) (by kernel_rfl) rfl C130 (fun x y hF => C130_vc x y hF)
theorem f130_in : ∃ fn, Tryz.prog.funcs[130]? = some fn ∧ fn.body.isSome = true ∧ (fn.name == "runtime.NumGoroutine") = false := ⟨Tryz.f130, by kernel_rfl, by kernel_rfl, by kernel_rfl⟩
end Go.Proofs
namespace Go.Proofs
open Go.AM
-- carousel/conv.windows
def f131 (long : Int) (wide : Int) (step : Int) : Option Int :=
  bif (decide (wide > long)) then
    some (0 : Int)
  else
    guardF (step ≠ 0) <|
    some (IntKind.i64.wrap ((IntKind.i64.wrap (Int.tdiv (IntKind.i64.wrap (long - wide)) step)) + (1 : Int)))
def C131 : Con where
  X := Int × Int × Int
  Y := Int
  e := 0
  args x := [.dat (.int .i64) x.1, .dat (.int .i64) x.2.1, .dat (.int .i64) x.2.2]
  hin x := []
  F x := f131 x.1 x.2.1 x.2.2
  ret y := [.dat (.int .i64) y]
  hout y := []
  nout := 0
theorem C131_vc (long : Int) (wide : Int) (step : Int) (y : Int) (hF : f131 long wide step = some y) : vc Tryz.prog tab Tryz.f131.ntmps 0 (match Tryz.f131.body with | some c => c | none => .skip) (retK tab C131 Tryz.f131.results.toList y) (C131.shIn (long, wide, step)).st := by
  unfold f131 at hF
  refine Or.inl ?_
  refine Or.inl ?_
  refine Or.inl ?_
  refine condI hF (fun hF => ?_) (fun hF => ?_)
  · refine Or.inl ?_
    have hy := someE hF
    subst hy
    refine And.intro rfl (Exists.intro [] (Exists.intro [] (Exists.intro [] (Exists.intro [] (Exists.intro [] (And.intro rfl (And.intro rfl (And.intro trivial trivial))))))))
  · refine Or.inl ?_
    refine guardI hF (fun hF => ?_)
    have hy := someE hF
    subst hy
    refine And.intro rfl (Exists.intro [] (Exists.intro [] (Exists.intro [] (Exists.intro [] (Exists.intro [] (And.intro rfl (And.intro rfl (And.intro trivial trivial))))))))
theorem C131_holds : C131.Holds Tryz.prog 131 := holds_of_vc tab_ok mixed (fn := Tryz.f131) (by kernel_rfl) rfl C131 (fun x y hF => C131_vc x.1 x.2.1 x.2.2 y hF)
theorem f131_in : ∃ fn, Tryz.prog.funcs[131]? = some fn ∧ fn.body.isSome = true ∧ (fn.name == "runtime.NumGoroutine") = false := ⟨Tryz.f131, by kernel_rfl, by kernel_rfl, by kernel_rfl⟩
end Go.Proofs
namespace Go.Proofs
open Go.AM
-- carousel/conv.of
def f132 (d : List Int) : Option (Int × (List Int) × (List Int)) :=
  bindF (f36 d (0 : Int)) fun r1 =>
  bif (r1.1 != (0 : Int)) then
    some ((2 : Int), [], [])
  else
    some ((0 : Int), r1.2.1, r1.2.2)
def C132 : Con where
  X := List Int
  Y := Int × (List Int) × (List Int)
  e := 0
  args x := [.dat (.sl (.int .i64)) x]
  hin x := []
  F x := f132 x
  ret y := [.raw true [(.osl 0), (.osl 1)], .dat (.int .i64) y.1]
  hout y := [(0, .arr 3 (.int .i64) y.2.1), (1, .arr 33 (.int .i64) y.2.2)]
  nout := 2
theorem C132_vc (d : List Int) (y : Int × (List Int) × (List Int)) (hF : f132 d = some y) : vc Tryz.prog tab Tryz.f132.ntmps 0 (match Tryz.f132.body with | some c => c | none => .skip) (retK tab C132 Tryz.f132.results.toList y) (C132.shIn d).st := by
  unfold f132 at hF
  refine Or.inl ?_
  refine Or.inl ?_
  obtain ⟨r1, hr1, hF⟩ := bindE hF
  refine Or.inl (And.intro f36_in (callV0 (callI C36 (d, (0 : Int)) r1 [] false C36_holds hr1 rfl rfl ?_)))
  refine (And.intro rfl (And.intro rfl (And.intro (fun h => nomatch h) (And.intro rfl (And.intro rfl (And.intro trivial (And.intro trivial ?_)))))))
  refine Or.inl ?_
  refine Or.inl ?_
  refine Or.inl ?_
  refine condI hF (fun hF => ?_) (fun hF => ?_)
  · refine Or.inl ?_
    refine Or.inl ?_
    have hy := someE hF
    subst hy
    refine And.intro rfl (Exists.intro [] (Exists.intro [] (Exists.intro [] (Exists.intro [] (Exists.intro [(0, none), (1, none)] (And.intro rfl (And.intro rfl (And.intro (And.intro rfl trivial) (And.intro rfl (And.intro rfl trivial))))))))))
  · refine Or.inl ?_
    refine Or.inl ?_
    have hy := someE hF
    subst hy
    refine And.intro rfl (Exists.intro [] (Exists.intro [] (Exists.intro [] (Exists.intro [] (Exists.intro [(0, some 1), (1, some 2)] (And.intro rfl (And.intro rfl (And.intro (And.intro rfl trivial) (And.intro rfl (And.intro rfl trivial))))))))))
theorem C132_holds : C132.Holds Tryz.prog 132 := holds_of_vc tab_ok mixed (fn := Tryz.f132) (by kernel_rfl) rfl C132 (fun x y hF => C132_vc x y hF)
theorem f132_in : ∃ fn, Tryz.prog.funcs[132]? = some fn ∧ fn.body.isSome = true ∧ (fn.name == "runtime.NumGoroutine") = false := ⟨Tryz.f132, by kernel_rfl, by kernel_rfl, by kernel_rfl⟩
end Go.Proofs
namespace Go.Proofs
open Go.AM
-- carousel/conv.Row
def f85_j4 (a : (List Int) × (List Int)) (k : (List Int) × (List Int)) (step : Int) : Option Bool :=
  bindF (f33 (a.1, a.2)) fun r12 =>
  bif (!r12) then
    some true
  else
    bindF (f33 (k.1, k.2)) fun r13 =>
    bif (!r13) then
      some true
    else
      bindF (f130 step) fun r14 =>
      some (!r14)
def f85_j5 (a : (List Int) × (List Int)) (k : (List Int) × (List Int)) : Option Bool :=
  bif ((List.length a.1 : Int) != (2 : Int)) then
    some true
  else
    bif ((List.length k.1 : Int) != (3 : Int)) then
      some true
    else
      guardF (0 ≤ (1 : Int) ∧ (1 : Int) < (List.length k.1 : Int)) <|
      guardF (0 ≤ (0 : Int) ∧ (0 : Int) < (List.length a.1 : Int)) <|
      bif ((rd (0 : Int) k.1 (1 : Int)) != (rd (0 : Int) a.1 (0 : Int))) then
        some true
      else
        guardF (0 ≤ (2 : Int) ∧ (2 : Int) < (List.length k.1 : Int)) <|
        guardF (0 ≤ (1 : Int) ∧ (1 : Int) < (List.length a.1 : Int)) <|
        some (decide ((rd (0 : Int) k.1 (2 : Int)) > (rd (0 : Int) a.1 (1 : Int))))
def f85_j3 (a : (List Int) × (List Int)) (k : (List Int) × (List Int)) (step : Int) : Option (Sum Unit Int) :=
  bindF (f85_j4 a k step) fun z11 =>
  bif z11 then
    some (Sum.inr (1 : Int))
  else
    bindF (f85_j5 a k) fun z15 =>
    bif z15 then
      some (Sum.inr (4 : Int))
    else
      some (Sum.inl ())
def f85_l18 (a : (List Int) × (List Int)) (k : (List Int) × (List Int)) (step : Int) (q5_14 : Int) (v102 : Int) (v112 : Int) (go : (Int × Int × Int × Int) → Option (Int × Int × Int)) (v116 : Int) (c4_0_2 : Int) (c4_1_2 : Int) (c4_2_2 : Int) : Option (Int × Int × Int) :=
  bif (decide (v116 < (rd (0 : Int) k.1 (2 : Int)))) then
    guardF (0 ≤ (IntKind.i64.wrap ((IntKind.i64.wrap ((IntKind.i64.wrap (v112 * (rd (0 : Int) a.1 (1 : Int)))) + (IntKind.i64.wrap ((Int.tmod v102 q5_14) * step)))) + v116)) ∧ (IntKind.i64.wrap ((IntKind.i64.wrap ((IntKind.i64.wrap (v112 * (rd (0 : Int) a.1 (1 : Int)))) + (IntKind.i64.wrap ((Int.tmod v102 q5_14) * step)))) + v116)) < (List.length a.2 : Int)) <|
    guardF (0 ≤ (IntKind.i64.wrap ((IntKind.i64.wrap ((IntKind.i64.wrap ((IntKind.i64.wrap ((IntKind.i64.wrap (Int.tdiv v102 q5_14)) * (rd (0 : Int) a.1 (0 : Int)))) + v112)) * (rd (0 : Int) k.1 (2 : Int)))) + v116)) ∧ (IntKind.i64.wrap ((IntKind.i64.wrap ((IntKind.i64.wrap ((IntKind.i64.wrap ((IntKind.i64.wrap (Int.tdiv v102 q5_14)) * (rd (0 : Int) a.1 (0 : Int)))) + v112)) * (rd (0 : Int) k.1 (2 : Int)))) + v116)) < (List.length k.2 : Int)) <|
    bindF (f133 c4_0_2 c4_1_2 c4_2_2 (rd (0 : Int) a.2 (IntKind.i64.wrap ((IntKind.i64.wrap ((IntKind.i64.wrap (v112 * (rd (0 : Int) a.1 (1 : Int)))) + (IntKind.i64.wrap ((Int.tmod v102 q5_14) * step)))) + v116))) (rd (0 : Int) k.2 (IntKind.i64.wrap ((IntKind.i64.wrap ((IntKind.i64.wrap ((IntKind.i64.wrap ((IntKind.i64.wrap (Int.tdiv v102 q5_14)) * (rd (0 : Int) a.1 (0 : Int)))) + v112)) * (rd (0 : Int) k.1 (2 : Int)))) + v116)))) fun q21_26 =>
    go ((IntKind.i64.wrap (v116 + (1 : Int))), q21_26.1, q21_26.2.1, q21_26.2.2)
  else
    some (c4_0_2, c4_1_2, c4_2_2)
def f85_l17 (a : (List Int) × (List Int)) (k : (List Int) × (List Int)) (step : Int) (q5_14 : Int) (v102 : Int) (go : (Int × Int × Int × Int) → Option (Int × Int × Int)) (v112 : Int) (c4_0 : Int) (c4_1 : Int) (c4_2 : Int) : Option (Int × Int × Int) :=
  bif (decide (v112 < (rd (0 : Int) a.1 (0 : Int)))) then
    bindF (loopF (fun go x => f85_l18 a k step q5_14 v102 v112 go x.1 x.2.1 x.2.2.1 x.2.2.2) fuelN ((0 : Int), c4_0, c4_1, c4_2)) fun z29 =>
    go ((IntKind.i64.wrap (v112 + (1 : Int))), z29.1, z29.2.1, z29.2.2)
  else
    some (c4_0, c4_1, c4_2)
def f85_l14 (a : (List Int) × (List Int)) (k : (List Int) × (List Int)) (step : Int) (q5_14 : Int) (r16 : Int × (List Int) × (List Int)) (go : (Int × (List Int)) → Option (List Int)) (v102 : Int) (l5 : List Int) : Option (List Int) :=
  bif (decide (v102 < (List.length r16.2.2 : Int))) then
    guardF (q5_14 ≠ 0) <|
    guardF (q5_14 ≠ 0) <|
    bindF (loopF (fun go x => f85_l17 a k step q5_14 v102 go x.1 x.2.1 x.2.2.1 x.2.2.2) fuelN ((0 : Int), (0 : Int), (0 : Int), (0 : Int))) fun z28 =>
    bindF (f134 z28.1 z28.2.1 z28.2.2 (32 : Int)) fun q24_3 =>
    guardF (0 ≤ v102 ∧ v102 < (List.length l5 : Int)) <|
    go ((IntKind.i64.wrap (v102 + (1 : Int))), (List.set l5 (Int.toNat v102) q24_3.1))
  else
    some l5
def f85 (a : (List Int) × (List Int)) (k : (List Int) × (List Int)) (step : Int) : Option (Int × (List Int) × (List Int)) :=
  bindF (f85_j3 a k step) fun z8 =>
  sumF z8 (fun z8a =>
    guardF (0 ≤ (0 : Int) ∧ (0 : Int) < (List.length a.1 : Int)) <|
    guardF (0 ≤ (1 : Int) ∧ (1 : Int) < (List.length a.1 : Int)) <|
    guardF (0 ≤ (2 : Int) ∧ (2 : Int) < (List.length k.1 : Int)) <|
    bindF (f131 (rd (0 : Int) a.1 (1 : Int)) (rd (0 : Int) k.1 (2 : Int)) step) fun q5_14 =>
    guardF (0 ≤ (0 : Int) ∧ (0 : Int) < (List.length k.1 : Int)) <|
    bindF (f132 ([(rd (0 : Int) k.1 (0 : Int)), q5_14])) fun r16 =>
    bif (r16.1 != (0 : Int)) then
      some (r16.1, [], [])
    else
      bindF (loopF (fun go x => f85_l14 a k step q5_14 r16 go x.1 x.2) fuelN ((0 : Int), r16.2.2)) fun z25 =>
      some ((0 : Int), r16.2.1, z25)) (fun z8b =>
    some (z8b, [], []))
def C85 : Con where
  X := ((List Int) × (List Int)) × ((List Int) × (List Int)) × Int
  Y := Int × (List Int) × (List Int)
  e := 0
  args x := [.dat (.p (.sl (.int .i64)) (.sl (.int .i64))) x.1, .dat (.p (.sl (.int .i64)) (.sl (.int .i64))) x.2.1, .dat (.int .i64) x.2.2]
  hin x := []
  F x := f85 x.1 x.2.1 x.2.2
  ret y := [.raw true [(.osl 0), (.osl 1)], .dat (.int .i64) y.1]
  hout y := [(0, .arr 3 (.int .i64) y.2.1), (1, .arr 33 (.int .i64) y.2.2)]
  nout := 2
theorem C85_vc (a : (List Int) × (List Int)) (k : (List Int) × (List Int)) (step : Int) (y : Int × (List Int) × (List Int)) (hF : f85 a k step = some y) : vc Tryz.prog tab Tryz.f85.ntmps 0 (match Tryz.f85.body with | some c => c | none => .skip) (retK tab C85 Tryz.f85.results.toList y) (C85.shIn (a, k, step)).st := by
  unfold f85 at hF
  refine Or.inl ?_
  obtain ⟨z8, hz8, hF⟩ := bindE hF
  refine Or.inr ⟨Sum.elim (fun z8a => [(0, ⟨[(2, .dat (.int .i64) step), (3, .raw false [(.ptr 0 0)]), (4, .raw false [(.ptr 1 0)]), (6, .raw false [(.ptr 2 0)])], [(0, .cells [(.d (.sl (.int .i64)) a.1), (.d (.sl (.int .i64)) a.2)]), (1, .cells [(.d (.sl (.int .i64)) k.1), (.d (.sl (.int .i64)) k.2)]), (2, .cells [(.c (.slice none 0 0)), (.c (.slice none 0 0))])], 3⟩)]) (fun z8b => [(1, ⟨[(6, .raw false [(.ptr 0 0)]), (7, .dat (.int .i64) z8b)], [(0, .cells [(.c (.slice none 0 0)), (.c (.slice none 0 0))])], 1⟩)]) z8, ?_, ?_⟩
  · have hF := hz8
    clear hz8
    unfold f85_j3 at hF
    obtain ⟨z11, hz11, hF⟩ := bindE hF
    refine Or.inr ⟨[(0, ⟨[(2, .dat (.int .i64) step), (3, .raw false [(.ptr 0 0)]), (4, .raw false [(.ptr 1 0)]), (6, .raw false [(.ptr 2 0)]), (20, .dat .bool z11)], [(0, .cells [(.d (.sl (.int .i64)) a.1), (.d (.sl (.int .i64)) a.2)]), (1, .cells [(.d (.sl (.int .i64)) k.1), (.d (.sl (.int .i64)) k.2)]), (2, .cells [(.c (.slice none 0 0)), (.c (.slice none 0 0))])], 3⟩)], ?_, ?_⟩
    · have hF := hz11
      clear hz11
      unfold f85_j4 at hF
      obtain ⟨r12, hr12, hF⟩ := bindE hF
      refine Or.inl (And.intro f33_in (callV0 (callI C33 (a.1, a.2) r12 [] false C33_holds hr12 rfl rfl ?_)))
      refine (And.intro rfl (And.intro rfl (And.intro (fun h => nomatch h) (And.intro rfl (And.intro rfl (And.intro trivial (And.intro trivial ?_)))))))
      refine condN hF (fun hF => ?_) (fun hF => ?_)
      · refine gdYF ?_
        obtain ⟨r13, hr13, hF⟩ := bindE hF
        refine Or.inl (And.intro f33_in (callV0 (callI C33 (k.1, k.2) r13 [] false C33_holds hr13 rfl rfl ?_)))
        refine (And.intro rfl (And.intro rfl (And.intro (fun h => nomatch h) (And.intro rfl (And.intro rfl (And.intro trivial (And.intro trivial ?_)))))))
        refine gdYF ?_
        refine condF ?_
        refine condN hF (fun hF => ?_) (fun hF => ?_)
        · refine gdYF ?_
          obtain ⟨r14, hr14, hF⟩ := bindE hF
          refine Or.inl (And.intro f130_in (callV0 (callI C130 step r14 [] false C130_holds hr14 rfl rfl ?_)))
          refine (And.intro rfl (And.intro (fun h => nomatch h) (And.intro rfl (And.intro rfl (And.intro trivial (And.intro trivial ?_))))))
          refine gdYF ?_
          refine condF ?_
          have hz := someE hF
          subst hz
          refine Exists.intro [] (Exists.intro [] (Exists.intro [] (Exists.intro [] (Exists.intro [(0, some 0), (1, some 1), (2, some 2)] (And.intro rfl (And.intro rfl (And.intro rfl (And.intro (And.intro rfl (And.intro rfl (And.intro rfl trivial))) (And.intro rfl (And.intro rfl (And.intro rfl trivial)))))))))))
        · refine gdNF ?_
          refine gdNF ?_
          refine condT ?_
          have hz := someE hF
          subst hz
          refine Exists.intro [] (Exists.intro [] (Exists.intro [] (Exists.intro [] (Exists.intro [(0, some 0), (1, some 1), (2, some 2)] (And.intro rfl (And.intro rfl (And.intro rfl (And.intro (And.intro rfl (And.intro rfl (And.intro rfl trivial))) (And.intro rfl (And.intro rfl (And.intro rfl trivial)))))))))))
      · refine gdNF ?_
        refine gdNF ?_
        refine condT ?_
        refine gdNF ?_
        refine gdNF ?_
        refine gdNF ?_
        refine condT ?_
        have hz := someE hF
        subst hz
        refine Exists.intro [] (Exists.intro [] (Exists.intro [] (Exists.intro [] (Exists.intro [(0, some 0), (1, some 1), (2, some 2)] (And.intro rfl (And.intro rfl (And.intro rfl (And.intro (And.intro rfl (And.intro rfl (And.intro rfl trivial))) (And.intro rfl (And.intro rfl (And.intro rfl trivial)))))))))))
    · refine And.intro ?_ trivial
      refine condI hF (fun hF => ?_) (fun hF => ?_)
      · refine Or.inl ?_
        refine Or.inl ?_
        have hz := someE hF
        subst hz
        refine Exists.intro [] (Exists.intro [] (Exists.intro [] (Exists.intro [] (Exists.intro [(0, some 2)] (And.intro rfl (And.intro rfl (And.intro (And.intro rfl trivial) (And.intro rfl trivial))))))))
      · obtain ⟨z15, hz15, hF⟩ := bindE hF
        refine Or.inr ⟨[(0, ⟨[(2, .dat (.int .i64) step), (3, .raw false [(.ptr 0 0)]), (4, .raw false [(.ptr 1 0)]), (6, .raw false [(.ptr 2 0)]), (35, .dat .bool z15)], [(0, .cells [(.d (.sl (.int .i64)) a.1), (.d (.sl (.int .i64)) a.2)]), (1, .cells [(.d (.sl (.int .i64)) k.1), (.d (.sl (.int .i64)) k.2)]), (2, .cells [(.c (.slice none 0 0)), (.c (.slice none 0 0))])], 3⟩)], ?_, ?_⟩
        · have hF := hz15
          clear hz15
          unfold f85_j5 at hF
          refine Exists.intro (.take 0 (.take 1 (.take 2 (.take 3 (.take 4 (.take 5 (.take 6 (.take 7 (.take 8 (.take 9 (.take 10 (.take 11 (.take 12 (.take 13 (.take 14 (.take 15 (.take 16 (.take 17 (.take 18 (.take 19 (.take 20 (.take 21 (.take 22 (.take 23 (.take 24 (.take 25 (.take 26 (.take 27 (.take 28 (.take 29 (.take 30 (.take 31 (.take 32 .done))))))))))))))))))))))))))))))))) (Exists.intro [] (Exists.intro [] (And.intro rfl ?_)))
          refine condN hF (fun hF => ?_) (fun hF => ?_)
          · refine gdYF ?_
            refine gdYF ?_
            refine gdYF ?_
            refine condF ?_
            refine condN hF (fun hF => ?_) (fun hF => ?_)
            · refine gdYF ?_
              refine gdYF ?_
              refine guardI hF (fun hF => ?_)
              refine gdYF ?_
              refine gdYF ?_
              refine gdYF ?_
              refine gdYF ?_
              refine guardI hF (fun hF => ?_)
              refine gdYF ?_
              refine gdYF ?_
              refine condF ?_
              refine condN hF (fun hF => ?_) (fun hF => ?_)
              · refine gdYF ?_
                refine gdYF ?_
                refine guardI hF (fun hF => ?_)
                refine gdYF ?_
                refine gdYF ?_
                refine gdYF ?_
                refine gdYF ?_
                refine guardI hF (fun hF => ?_)
                refine gdYF ?_
                refine gdYF ?_
                refine condF ?_
                have hz := someE hF
                subst hz
                refine Exists.intro [] (Exists.intro [] (Exists.intro [] (Exists.intro [] (Exists.intro [(0, some 0), (1, some 1), (2, some 2)] (And.intro rfl (And.intro rfl (And.intro rfl (And.intro (And.intro rfl (And.intro rfl (And.intro rfl trivial))) (And.intro rfl (And.intro rfl (And.intro rfl trivial)))))))))))
              · refine gdNF ?_
                refine gdNF ?_
                refine gdNF ?_
                refine gdNF ?_
                refine gdNF ?_
                refine gdNF ?_
                refine gdNF ?_
                refine gdNF ?_
                refine condT ?_
                have hz := someE hF
                subst hz
                refine Exists.intro [] (Exists.intro [] (Exists.intro [] (Exists.intro [] (Exists.intro [(0, some 0), (1, some 1), (2, some 2)] (And.intro rfl (And.intro rfl (And.intro rfl (And.intro (And.intro rfl (And.intro rfl (And.intro rfl trivial))) (And.intro rfl (And.intro rfl (And.intro rfl trivial)))))))))))
            · refine gdNF ?_
              refine gdNF ?_
              refine gdNF ?_
              refine gdNF ?_
              refine gdNF ?_
              refine gdNF ?_
              refine gdNF ?_
              refine gdNF ?_
              refine condT ?_
              refine gdNF ?_
              refine gdNF ?_
              refine gdNF ?_
              refine gdNF ?_
              refine gdNF ?_
              refine gdNF ?_
              refine gdNF ?_
              refine gdNF ?_
              refine gdNF ?_
              refine condT ?_
              have hz := someE hF
              subst hz
              refine Exists.intro [] (Exists.intro [] (Exists.intro [] (Exists.intro [] (Exists.intro [(0, some 0), (1, some 1), (2, some 2)] (And.intro rfl (And.intro rfl (And.intro rfl (And.intro (And.intro rfl (And.intro rfl (And.intro rfl trivial))) (And.intro rfl (And.intro rfl (And.intro rfl trivial)))))))))))
          · refine gdNF ?_
            refine gdNF ?_
            refine gdNF ?_
            refine condT ?_
            refine gdNF ?_
            refine gdNF ?_
            refine gdNF ?_
            refine gdNF ?_
            refine gdNF ?_
            refine gdNF ?_
            refine gdNF ?_
            refine gdNF ?_
            refine gdNF ?_
            refine condT ?_
            refine gdNF ?_
            refine gdNF ?_
            refine gdNF ?_
            refine gdNF ?_
            refine gdNF ?_
            refine gdNF ?_
            refine gdNF ?_
            refine gdNF ?_
            refine gdNF ?_
            refine condT ?_
            have hz := someE hF
            subst hz
            refine Exists.intro [] (Exists.intro [] (Exists.intro [] (Exists.intro [] (Exists.intro [(0, some 0), (1, some 1), (2, some 2)] (And.intro rfl (And.intro rfl (And.intro rfl (And.intro (And.intro rfl (And.intro rfl (And.intro rfl trivial))) (And.intro rfl (And.intro rfl (And.intro rfl trivial)))))))))))
        · refine And.intro ?_ trivial
          refine condI hF (fun hF => ?_) (fun hF => ?_)
          · refine Or.inl ?_
            refine Or.inl ?_
            have hz := someE hF
            subst hz
            refine Exists.intro [] (Exists.intro [] (Exists.intro [] (Exists.intro [] (Exists.intro [(0, some 2)] (And.intro rfl (And.intro rfl (And.intro (And.intro rfl trivial) (And.intro rfl trivial))))))))
          · have hz := someE hF
            subst hz
            refine Exists.intro [] (Exists.intro [] (Exists.intro [] (Exists.intro [] (Exists.intro [(0, some 0), (1, some 1), (2, some 2)] (And.intro rfl (And.intro rfl (And.intro (And.intro rfl (And.intro rfl (And.intro rfl trivial))) (And.intro rfl (And.intro rfl (And.intro rfl trivial))))))))))
  · rcases z8 with z8a | z8b
    · dsimp only [sumF] at hF
      refine And.intro ?_ trivial
      refine Or.inl ?_
      refine Exists.intro (.take 0 (.take 1 (.take 2 (.take 3 (.take 4 (.take 5 (.take 6 (.take 7 (.take 8 (.take 9 (.take 10 (.take 11 (.take 12 (.take 13 (.take 14 .done))))))))))))))) (Exists.intro [] (Exists.intro [] (And.intro rfl ?_)))
      refine guardI hF (fun hF => ?_)
      refine guardI hF (fun hF => ?_)
      refine guardI hF (fun hF => ?_)
      refine Or.inl ?_
      obtain ⟨q5_14, hq5_14, hF⟩ := bindE hF
      refine Or.inl (And.intro f131_in (callV0 (callI C131 ((rd (0 : Int) a.1 (1 : Int)), (rd (0 : Int) k.1 (2 : Int)), step) q5_14 [] false C131_holds hq5_14 rfl rfl ?_)))
      refine (And.intro rfl (And.intro rfl (And.intro rfl (And.intro (fun h => nomatch h) (And.intro rfl (And.intro rfl (And.intro trivial (And.intro trivial ?_))))))))
      refine Or.inl ?_
      refine guardI hF (fun hF => ?_)
      refine Or.inl ?_
      obtain ⟨r16, hr16, hF⟩ := bindE hF
      refine Or.inl (And.intro f132_in (callV0 (callI C132 [(rd (0 : Int) k.1 (0 : Int)), q5_14] r16 [] true C132_holds hr16 rfl rfl ?_)))
      refine (And.intro rfl (And.intro (fun _ => rfl) (And.intro rfl (And.intro rfl (And.intro trivial (And.intro trivial ?_))))))
      refine Or.inl ?_
      refine Or.inl ?_
      refine Or.inl ?_
      refine condI hF (fun hF => ?_) (fun hF => ?_)
      · refine Or.inl ?_
        refine Or.inl ?_
        have hy := someE hF
        subst hy
        refine And.intro rfl (Exists.intro [] (Exists.intro [] (Exists.intro [] (Exists.intro [] (Exists.intro [(0, none), (1, none)] (And.intro rfl (And.intro rfl (And.intro (And.intro rfl trivial) (And.intro rfl (And.intro rfl trivial))))))))))
      · refine Or.inl ?_
        refine Or.inl ?_
        obtain ⟨z25, hz25, hF⟩ := bindE hF
        refine loopI (Int × (List Int)) (List Int) (fun x => ⟨[(2, .dat (.int .i64) step), (3, .raw false [(.ptr 0 0)]), (4, .raw false [(.ptr 1 0)]), (6, .raw false [(.ptr 2 0)]), (8, .dat (.int .i64) (rd (0 : Int) a.1 (0 : Int))), (9, .dat (.int .i64) (rd (0 : Int) a.1 (1 : Int))), (10, .dat (.int .i64) (rd (0 : Int) k.1 (2 : Int))), (11, .dat (.int .i64) q5_14), (12, .raw false [(.ptr 3 0)]), (101, .dat (.int .i64) (List.length r16.2.2 : Int)), (102, .dat (.int .i64) x.1)], [(0, .cells [(.d (.sl (.int .i64)) a.1), (.d (.sl (.int .i64)) a.2)]), (1, .cells [(.d (.sl (.int .i64)) k.1), (.d (.sl (.int .i64)) k.2)]), (2, .cells [(.c (.slice none 0 0)), (.c (.slice none 0 0))]), (3, .cells [(.osl 4), (.osl 5)]), (4, .arr 3 (.int .i64) r16.2.1), (5, .arr 33 (.int .i64) x.2)], 6⟩) (fun z => [(3, ⟨[(6, .raw false [(.ptr 0 0)]), (12, .raw false [(.ptr 1 0)])], [(0, .cells [(.c (.slice none 0 0)), (.c (.slice none 0 0))]), (1, .cells [(.osl 2), (.osl 3)]), (2, .arr 3 (.int .i64) r16.2.1), (3, .arr 33 (.int .i64) z)], 4⟩)]) (loopF (fun go x => f85_l14 a k step q5_14 r16 go x.1 x.2)) fuelN ((0 : Int), r16.2.2) z25 (And.intro hz25 (And.intro (Exists.intro [] (Exists.intro [] (Exists.intro [] (Exists.intro [] (Exists.intro [(0, some 0), (1, some 1), (2, some 2), (3, some 6), (4, some 4), (5, some 5)] (And.intro rfl (And.intro rfl (And.intro rfl (And.intro rfl (And.intro rfl (And.intro rfl (And.intro rfl (And.intro rfl (And.intro (And.intro rfl (And.intro rfl (And.intro rfl (And.intro rfl trivial)))) (And.intro rfl (And.intro rfl (And.intro rfl (And.intro rfl (And.intro rfl (And.intro rfl trivial)))))))))))))))))))) (And.intro (fun _ _ h => loopZ h) (And.intro (fun m => curI (fun v102 => fun l5 z hF => ?_)) ?_))))
        · have hF : f85_l14 a k step q5_14 r16 (loopF (fun go x => f85_l14 a k step q5_14 r16 go x.1 x.2) m) v102 l5 = some z := hF
          unfold f85_l14 at hF
          refine Or.inl ?_
          refine Or.inl ?_
          refine condI hF (fun hF => ?_) (fun hF => ?_)
          · refine Or.inl ?_
            refine Or.inl ?_
            refine Or.inl ?_
            refine Exists.intro (.take 0 (.take 1 (.take 2 (.take 3 (.take 4 (.take 5 (.take 6 (.take 7 .done)))))))) (Exists.intro [] (Exists.intro [] (And.intro rfl ?_)))
            refine guardI hF (fun hF => ?_)
            refine guardI hF (fun hF => ?_)
            refine Or.inl ?_
            refine Or.inl ?_
            refine Or.inl ?_
            obtain ⟨z28, hz28, hF⟩ := bindE hF
            refine loopI (Int × Int × Int × Int) (Int × Int × Int) (fun x => ⟨[(2, .dat (.int .i64) step), (3, .raw false [(.ptr 0 0)]), (4, .raw false [(.ptr 1 0)]), (6, .raw false [(.ptr 2 0)]), (8, .dat (.int .i64) (rd (0 : Int) a.1 (0 : Int))), (9, .dat (.int .i64) (rd (0 : Int) a.1 (1 : Int))), (10, .dat (.int .i64) (rd (0 : Int) k.1 (2 : Int))), (11, .dat (.int .i64) q5_14), (12, .raw false [(.ptr 3 0)]), (14, .dat (.int .i64) v102), (15, .dat (.int .i64) (IntKind.i64.wrap (Int.tdiv v102 q5_14))), (16, .dat (.int .i64) (Int.tmod v102 q5_14)), (17, .raw false [(.ptr 4 0)]), (101, .dat (.int .i64) (List.length r16.2.2 : Int)), (102, .dat (.int .i64) v102), (111, .dat (.int .i64) (rd (0 : Int) a.1 (0 : Int))), (112, .dat (.int .i64) x.1)], [(0, .cells [(.d (.sl (.int .i64)) a.1), (.d (.sl (.int .i64)) a.2)]), (1, .cells [(.d (.sl (.int .i64)) k.1), (.d (.sl (.int .i64)) k.2)]), (2, .cells [(.c (.slice none 0 0)), (.c (.slice none 0 0))]), (3, .cells [(.osl 5), (.osl 6)]), (4, .cells [(.d (.int .i64) x.2.1), (.d (.int .i64) x.2.2.1), (.d (.int .u64) x.2.2.2)]), (5, .arr 3 (.int .i64) r16.2.1), (6, .arr 33 (.int .i64) l5)], 7⟩) (fun z => [(5, ⟨[(2, .dat (.int .i64) step), (3, .raw false [(.ptr 0 0)]), (4, .raw false [(.ptr 1 0)]), (6, .raw false [(.ptr 2 0)]), (8, .dat (.int .i64) (rd (0 : Int) a.1 (0 : Int))), (9, .dat (.int .i64) (rd (0 : Int) a.1 (1 : Int))), (10, .dat (.int .i64) (rd (0 : Int) k.1 (2 : Int))), (11, .dat (.int .i64) q5_14), (12, .raw false [(.ptr 3 0)]), (14, .dat (.int .i64) v102), (17, .raw false [(.ptr 4 0)]), (101, .dat (.int .i64) (List.length r16.2.2 : Int)), (102, .dat (.int .i64) v102)], [(0, .cells [(.d (.sl (.int .i64)) a.1), (.d (.sl (.int .i64)) a.2)]), (1, .cells [(.d (.sl (.int .i64)) k.1), (.d (.sl (.int .i64)) k.2)]), (2, .cells [(.c (.slice none 0 0)), (.c (.slice none 0 0))]), (3, .cells [(.osl 5), (.osl 6)]), (4, .cells [(.d (.int .i64) z.1), (.d (.int .i64) z.2.1), (.d (.int .u64) z.2.2)]), (5, .arr 3 (.int .i64) r16.2.1), (6, .arr 33 (.int .i64) l5)], 7⟩)]) (loopF (fun go x => f85_l17 a k step q5_14 v102 go x.1 x.2.1 x.2.2.1 x.2.2.2)) fuelN ((0 : Int), (0 : Int), (0 : Int), (0 : Int)) z28 (And.intro hz28 (And.intro (Exists.intro [] (Exists.intro [] (Exists.intro [] (Exists.intro [] (Exists.intro [(0, some 0), (1, some 1), (2, some 2), (3, some 3), (4, some 6), (5, some 4), (6, some 5)] (And.intro rfl (And.intro rfl (And.intro rfl (And.intro rfl (And.intro rfl (And.intro rfl (And.intro rfl (And.intro rfl (And.intro rfl (And.intro rfl (And.intro rfl (And.intro rfl (And.intro rfl (And.intro (And.intro rfl (And.intro rfl (And.intro rfl (And.intro rfl (And.intro rfl trivial))))) (And.intro rfl (And.intro rfl (And.intro rfl (And.intro rfl (And.intro rfl (And.intro rfl (And.intro rfl trivial)))))))))))))))))))))))))) (And.intro (fun _ _ h => loopZ h) (And.intro (fun m => curI (fun v112 => curI (fun c4_0 => curI (fun c4_1 => fun c4_2 z hF => ?_)))) ?_))))
            · have hF : f85_l17 a k step q5_14 v102 (loopF (fun go x => f85_l17 a k step q5_14 v102 go x.1 x.2.1 x.2.2.1 x.2.2.2) m) v112 c4_0 c4_1 c4_2 = some z := hF
              unfold f85_l17 at hF
              refine Or.inl ?_
              refine Or.inl ?_
              refine condI hF (fun hF => ?_) (fun hF => ?_)
              · refine Or.inl ?_
                refine Or.inl ?_
                refine Or.inl ?_
                obtain ⟨z29, hz29, hF⟩ := bindE hF
                refine loopI (Int × Int × Int × Int) (Int × Int × Int) (fun x => ⟨[(2, .dat (.int .i64) step), (3, .raw false [(.ptr 0 0)]), (4, .raw false [(.ptr 1 0)]), (6, .raw false [(.ptr 2 0)]), (8, .dat (.int .i64) (rd (0 : Int) a.1 (0 : Int))), (9, .dat (.int .i64) (rd (0 : Int) a.1 (1 : Int))), (10, .dat (.int .i64) (rd (0 : Int) k.1 (2 : Int))), (11, .dat (.int .i64) q5_14), (12, .raw false [(.ptr 3 0)]), (14, .dat (.int .i64) v102), (15, .dat (.int .i64) (IntKind.i64.wrap (Int.tdiv v102 q5_14))), (16, .dat (.int .i64) (Int.tmod v102 q5_14)), (17, .raw false [(.ptr 4 0)]), (18, .dat (.int .i64) v112), (101, .dat (.int .i64) (List.length r16.2.2 : Int)), (102, .dat (.int .i64) v102), (111, .dat (.int .i64) (rd (0 : Int) a.1 (0 : Int))), (112, .dat (.int .i64) v112), (115, .dat (.int .i64) (rd (0 : Int) k.1 (2 : Int))), (116, .dat (.int .i64) x.1)], [(0, .cells [(.d (.sl (.int .i64)) a.1), (.d (.sl (.int .i64)) a.2)]), (1, .cells [(.d (.sl (.int .i64)) k.1), (.d (.sl (.int .i64)) k.2)]), (2, .cells [(.c (.slice none 0 0)), (.c (.slice none 0 0))]), (3, .cells [(.osl 5), (.osl 6)]), (4, .cells [(.d (.int .i64) x.2.1), (.d (.int .i64) x.2.2.1), (.d (.int .u64) x.2.2.2)]), (5, .arr 3 (.int .i64) r16.2.1), (6, .arr 33 (.int .i64) l5)], 7⟩) (fun z => [(7, ⟨[(2, .dat (.int .i64) step), (3, .raw false [(.ptr 0 0)]), (4, .raw false [(.ptr 1 0)]), (6, .raw false [(.ptr 2 0)]), (8, .dat (.int .i64) (rd (0 : Int) a.1 (0 : Int))), (9, .dat (.int .i64) (rd (0 : Int) a.1 (1 : Int))), (10, .dat (.int .i64) (rd (0 : Int) k.1 (2 : Int))), (11, .dat (.int .i64) q5_14), (12, .raw false [(.ptr 3 0)]), (14, .dat (.int .i64) v102), (15, .dat (.int .i64) (IntKind.i64.wrap (Int.tdiv v102 q5_14))), (16, .dat (.int .i64) (Int.tmod v102 q5_14)), (17, .raw false [(.ptr 4 0)]), (101, .dat (.int .i64) (List.length r16.2.2 : Int)), (102, .dat (.int .i64) v102), (111, .dat (.int .i64) (rd (0 : Int) a.1 (0 : Int))), (112, .dat (.int .i64) v112)], [(0, .cells [(.d (.sl (.int .i64)) a.1), (.d (.sl (.int .i64)) a.2)]), (1, .cells [(.d (.sl (.int .i64)) k.1), (.d (.sl (.int .i64)) k.2)]), (2, .cells [(.c (.slice none 0 0)), (.c (.slice none 0 0))]), (3, .cells [(.osl 5), (.osl 6)]), (4, .cells [(.d (.int .i64) z.1), (.d (.int .i64) z.2.1), (.d (.int .u64) z.2.2)]), (5, .arr 3 (.int .i64) r16.2.1), (6, .arr 33 (.int .i64) l5)], 7⟩)]) (loopF (fun go x => f85_l18 a k step q5_14 v102 v112 go x.1 x.2.1 x.2.2.1 x.2.2.2)) fuelN ((0 : Int), c4_0, c4_1, c4_2) z29 (And.intro hz29 (And.intro (Exists.intro [] (Exists.intro [] (Exists.intro [] (Exists.intro [] (Exists.intro [(0, some 0), (1, some 1), (2, some 2), (3, some 3), (4, some 4), (5, some 5), (6, some 6)] (And.intro rfl (And.intro rfl (And.intro rfl (And.intro rfl (And.intro rfl (And.intro rfl (And.intro rfl (And.intro rfl (And.intro rfl (And.intro rfl (And.intro rfl (And.intro rfl (And.intro rfl (And.intro rfl (And.intro rfl (And.intro rfl (And.intro (And.intro rfl (And.intro rfl (And.intro rfl (And.intro rfl (And.intro rfl trivial))))) (And.intro rfl (And.intro rfl (And.intro rfl (And.intro rfl (And.intro rfl (And.intro rfl (And.intro rfl trivial))))))))))))))))))))))))))))) (And.intro (fun _ _ h => loopZ h) (And.intro (fun m => curI (fun v116 => curI (fun c4_0_2 => curI (fun c4_1_2 => fun c4_2_2 z hF => ?_)))) ?_))))
                · have hF : f85_l18 a k step q5_14 v102 v112 (loopF (fun go x => f85_l18 a k step q5_14 v102 v112 go x.1 x.2.1 x.2.2.1 x.2.2.2) m) v116 c4_0_2 c4_1_2 c4_2_2 = some z := hF
                  unfold f85_l18 at hF
                  refine Or.inl ?_
                  refine Or.inl ?_
                  refine condI hF (fun hF => ?_) (fun hF => ?_)
                  · refine Or.inl ?_
                    refine Or.inl ?_
                    refine Exists.intro (.take 0 (.take 1 (.take 2 (.take 3 (.take 4 (.take 5 (.take 6 (.take 7 (.take 8 (.take 9 (.take 10 (.take 11 (.take 12 (.take 13 (.take 14 (.take 15 (.take 16 (.take 17 (.take 18 (.take 19 (.take 20 (.take 21 (.take 22 (.take 23 (.take 24 (.take 25 (.alt 26 .done .done))))))))))))))))))))))))))) (Exists.intro [] (Exists.intro [] (And.intro rfl ?_)))
                    refine guardI hF (fun hF => ?_)
                    refine guardI hF (fun hF => ?_)
                    refine And.intro trivial ?_
                    obtain ⟨q21_26, hq21_26, hF⟩ := bindE hF
                    refine Or.inl (And.intro f133_in (callV0 (callI C133 (c4_0_2, c4_1_2, c4_2_2, (rd (0 : Int) a.2 (IntKind.i64.wrap ((IntKind.i64.wrap ((IntKind.i64.wrap (v112 * (rd (0 : Int) a.1 (1 : Int)))) + (IntKind.i64.wrap ((Int.tmod v102 q5_14) * step)))) + v116))), (rd (0 : Int) k.2 (IntKind.i64.wrap ((IntKind.i64.wrap ((IntKind.i64.wrap ((IntKind.i64.wrap ((IntKind.i64.wrap (Int.tdiv v102 q5_14)) * (rd (0 : Int) a.1 (0 : Int)))) + v112)) * (rd (0 : Int) k.1 (2 : Int)))) + v116)))) q21_26 [(0, some 4)] false C133_holds hq21_26 rfl rfl ?_)))
                    refine (And.intro rfl (And.intro rfl (And.intro (fun h => nomatch h) (And.intro rfl (And.intro rfl (And.intro (And.intro rfl trivial) (And.intro (And.intro rfl trivial) ?_)))))))
                    refine Exists.intro ((IntKind.i64.wrap (v116 + (1 : Int))), q21_26.1, q21_26.2.1, q21_26.2.2) (And.intro hF (Exists.intro [] (Exists.intro [] (Exists.intro [] (Exists.intro [] (Exists.intro [(0, some 0), (1, some 1), (2, some 2), (3, some 3), (4, some 4), (5, some 5), (6, some 6)] (And.intro rfl (And.intro rfl (And.intro rfl (And.intro rfl (And.intro rfl (And.intro rfl (And.intro rfl (And.intro rfl (And.intro rfl (And.intro rfl (And.intro rfl (And.intro rfl (And.intro rfl (And.intro rfl (And.intro rfl (And.intro rfl (And.intro (And.intro rfl (And.intro rfl (And.intro rfl (And.intro rfl (And.intro rfl trivial))))) (And.intro rfl (And.intro rfl (And.intro rfl (And.intro rfl (And.intro rfl (And.intro rfl (And.intro rfl trivial))))))))))))))))))))))))))))))
                  · have hz := someE hF
                    subst hz
                    refine Exists.intro [] (Exists.intro [] (Exists.intro [] (Exists.intro [] (Exists.intro [(0, some 0), (1, some 1), (2, some 2), (3, some 3), (4, some 4), (5, some 5), (6, some 6)] (And.intro rfl (And.intro rfl (And.intro rfl (And.intro rfl (And.intro rfl (And.intro rfl (And.intro rfl (And.intro rfl (And.intro rfl (And.intro rfl (And.intro rfl (And.intro rfl (And.intro rfl (And.intro (And.intro rfl (And.intro rfl (And.intro rfl (And.intro rfl (And.intro rfl trivial))))) (And.intro rfl (And.intro rfl (And.intro rfl (And.intro rfl (And.intro rfl (And.intro rfl (And.intro rfl trivial)))))))))))))))))))))))))
                · refine And.intro ?_ trivial
                  refine Exists.intro ((IntKind.i64.wrap (v112 + (1 : Int))), z29.1, z29.2.1, z29.2.2) (And.intro hF (Exists.intro [] (Exists.intro [] (Exists.intro [] (Exists.intro [] (Exists.intro [(0, some 0), (1, some 1), (2, some 2), (3, some 3), (4, some 4), (5, some 5), (6, some 6)] (And.intro rfl (And.intro rfl (And.intro rfl (And.intro rfl (And.intro rfl (And.intro rfl (And.intro rfl (And.intro rfl (And.intro rfl (And.intro rfl (And.intro rfl (And.intro rfl (And.intro rfl (And.intro (And.intro rfl (And.intro rfl (And.intro rfl (And.intro rfl (And.intro rfl trivial))))) (And.intro rfl (And.intro rfl (And.intro rfl (And.intro rfl (And.intro rfl (And.intro rfl (And.intro rfl trivial)))))))))))))))))))))))))))
              · have hz := someE hF
                subst hz
                refine Exists.intro [] (Exists.intro [] (Exists.intro [] (Exists.intro [] (Exists.intro [(0, some 0), (1, some 1), (2, some 2), (3, some 3), (4, some 4), (5, some 5), (6, some 6)] (And.intro rfl (And.intro rfl (And.intro rfl (And.intro rfl (And.intro rfl (And.intro rfl (And.intro rfl (And.intro rfl (And.intro rfl (And.intro (And.intro rfl (And.intro rfl (And.intro rfl (And.intro rfl (And.intro rfl trivial))))) (And.intro rfl (And.intro rfl (And.intro rfl (And.intro rfl (And.intro rfl (And.intro rfl (And.intro rfl trivial)))))))))))))))))))))
            · refine And.intro ?_ trivial
              refine Exists.intro (.take 0 (.take 1 (.take 2 (.alt 3 (.take 4 (.alt 5 .done .done)) .done)))) (Exists.intro [] (Exists.intro [] (And.intro rfl ?_)))
              refine And.intro trivial ?_
              obtain ⟨q24_3, hq24_3, hF⟩ := bindE hF
              refine Or.inl (And.intro f134_in (callV0 (callI C134 (z28.1, z28.2.1, z28.2.2, (32 : Int)) q24_3 [(0, some 4)] false C134_holds hq24_3 rfl rfl ?_)))
              refine (And.intro rfl (And.intro (fun h => nomatch h) (And.intro rfl (And.intro rfl (And.intro (And.intro rfl trivial) (And.intro (And.intro rfl trivial) ?_))))))
              refine guardI hF (fun hF => ?_)
              refine And.intro trivial ?_
              refine Or.inl ?_
              refine Exists.intro ((IntKind.i64.wrap (v102 + (1 : Int))), (List.set l5 (Int.toNat v102) q24_3.1)) (And.intro hF (Exists.intro [] (Exists.intro [] (Exists.intro [] (Exists.intro [] (Exists.intro [(0, some 0), (1, some 1), (2, some 2), (3, some 3), (4, some 5), (5, some 6)] (And.intro rfl (And.intro rfl (And.intro rfl (And.intro rfl (And.intro rfl (And.intro rfl (And.intro rfl (And.intro rfl (And.intro (And.intro rfl (And.intro rfl (And.intro rfl (And.intro rfl trivial)))) (And.intro rfl (And.intro rfl (And.intro rfl (And.intro rfl (And.intro rfl (And.intro rfl trivial)))))))))))))))))))))
          · have hz := someE hF
            subst hz
            refine Exists.intro [] (Exists.intro [] (Exists.intro [] (Exists.intro [] (Exists.intro [(0, some 2), (1, some 3), (2, some 4), (3, some 5)] (And.intro rfl (And.intro (And.intro rfl (And.intro rfl trivial)) (And.intro rfl (And.intro rfl (And.intro rfl (And.intro rfl trivial))))))))))
        · refine And.intro ?_ trivial
          refine Or.inl ?_
          refine Or.inl ?_
          have hy := someE hF
          subst hy
          refine And.intro rfl (Exists.intro [] (Exists.intro [] (Exists.intro [] (Exists.intro [] (Exists.intro [(0, some 2), (1, some 3)] (And.intro rfl (And.intro rfl (And.intro (And.intro rfl trivial) (And.intro rfl (And.intro rfl trivial))))))))))
    · dsimp only [sumF] at hF
      refine And.intro ?_ trivial
      have hy := someE hF
      subst hy
      refine And.intro rfl (Exists.intro [] (Exists.intro [] (Exists.intro [] (Exists.intro [] (Exists.intro [(0, none), (1, none)] (And.intro rfl (And.intro rfl (And.intro (And.intro rfl trivial) (And.intro rfl (And.intro rfl trivial))))))))))
theorem C85_holds : C85.Holds Tryz.prog 85 := holds_of_vc tab_ok mixed (fn := Tryz.f85) (by kernel_rfl) rfl C85 (fun x y hF => C85_vc x.1 x.2.1 x.2.2 y hF)
theorem f85_in : ∃ fn, Tryz.prog.funcs[85]? = some fn ∧ fn.body.isSome = true ∧ (fn.name == "runtime.NumGoroutine") = false := ⟨Tryz.f85, by kernel_rfl, by kernel_rfl, by kernel_rfl⟩
end Go.Proofs
namespace Go.Proofs
open Go.AM
-- carousel/tape.pair
def f42 (op : Int) (a : (List Int) × (List Int)) (b : (List Int) × (List Int)) (k : Int) : Option (Int × (List Int) × (List Int)) :=
  bif (op == (2 : Int)) then
    bindF (f81 (a.1, a.2) (b.1, b.2)) fun r1 =>
    some (r1.1, r1.2.1, r1.2.2)
  else
    bif (op == (3 : Int)) then
      bindF (f82 (a.1, a.2) (b.1, b.2)) fun r2 =>
      some (r2.1, r2.2.1, r2.2.2)
    else
      bif (op == (4 : Int)) then
        bindF (f83 (a.1, a.2) (b.1, b.2)) fun r3 =>
        some (r3.1, r3.2.1, r3.2.2)
      else
        bif (op == (6 : Int)) then
          bindF (f84 (a.1, a.2) (b.1, b.2)) fun r4 =>
          some (r4.1, r4.2.1, r4.2.2)
        else
          bindF (f85 (a.1, a.2) (b.1, b.2) k) fun r5 =>
          some (r5.1, r5.2.1, r5.2.2)
def C42 : Con where
  X := Int × ((List Int) × (List Int)) × ((List Int) × (List Int)) × Int
  Y := Int × (List Int) × (List Int)
  e := 0
  args x := [.dat (.int .i64) x.1, .dat (.p (.sl (.int .i64)) (.sl (.int .i64))) x.2.1, .dat (.p (.sl (.int .i64)) (.sl (.int .i64))) x.2.2.1, .dat (.int .i64) x.2.2.2]
  hin x := []
  F x := f42 x.1 x.2.1 x.2.2.1 x.2.2.2
  ret y := [.raw true [(.osl 0), (.osl 1)], .dat (.int .i64) y.1]
  hout y := [(0, .arr 3 (.int .i64) y.2.1), (1, .arr 33 (.int .i64) y.2.2)]
  nout := 2
theorem C42_vc (op : Int) (a : (List Int) × (List Int)) (b : (List Int) × (List Int)) (k : Int) (y : Int × (List Int) × (List Int)) (hF : f42 op a b k = some y) : vc Tryz.prog tab Tryz.f42.ntmps 0 (match Tryz.f42.body with | some c => c | none => .skip) (retK tab C42 Tryz.f42.results.toList y) (C42.shIn (op, a, b, k)).st := by
  unfold f42 at hF
  refine Or.inl ?_
  refine Or.inl ?_
  refine Or.inl ?_
  refine Or.inl ?_
  refine condI hF (fun hF => ?_) (fun hF => ?_)
  · refine Or.inl ?_
    obtain ⟨r1, hr1, hF⟩ := bindE hF
    refine Or.inl (And.intro f81_in (callV0 (callI C81 ((a.1, a.2), (b.1, b.2)) r1 [] false C81_holds hr1 rfl rfl ?_)))
    refine (And.intro rfl (And.intro rfl (And.intro rfl (And.intro rfl (And.intro (fun h => nomatch h) (And.intro rfl (And.intro rfl (And.intro trivial (And.intro trivial ?_)))))))))
    refine Or.inl ?_
    have hy := someE hF
    subst hy
    refine And.intro rfl (Exists.intro [] (Exists.intro [] (Exists.intro [] (Exists.intro [] (Exists.intro [(0, some 3), (1, some 4)] (And.intro rfl (And.intro rfl (And.intro (And.intro rfl trivial) (And.intro rfl (And.intro rfl trivial))))))))))
  · refine Or.inl ?_
    refine condI hF (fun hF => ?_) (fun hF => ?_)
    · refine Or.inl ?_
      obtain ⟨r2, hr2, hF⟩ := bindE hF
      refine Or.inl (And.intro f82_in (callV0 (callI C82 ((a.1, a.2), (b.1, b.2)) r2 [] false C82_holds hr2 rfl rfl ?_)))
      refine (And.intro rfl (And.intro rfl (And.intro rfl (And.intro rfl (And.intro (fun h => nomatch h) (And.intro rfl (And.intro rfl (And.intro trivial (And.intro trivial ?_)))))))))
      refine Or.inl ?_
      have hy := someE hF
      subst hy
      refine And.intro rfl (Exists.intro [] (Exists.intro [] (Exists.intro [] (Exists.intro [] (Exists.intro [(0, some 3), (1, some 4)] (And.intro rfl (And.intro rfl (And.intro (And.intro rfl trivial) (And.intro rfl (And.intro rfl trivial))))))))))
    · refine Or.inl ?_
      refine condI hF (fun hF => ?_) (fun hF => ?_)
      · refine Or.inl ?_
        obtain ⟨r3, hr3, hF⟩ := bindE hF
        refine Or.inl (And.intro f83_in (callV0 (callI C83 ((a.1, a.2), (b.1, b.2)) r3 [] false C83_holds hr3 rfl rfl ?_)))
        refine (And.intro rfl (And.intro rfl (And.intro rfl (And.intro rfl (And.intro (fun h => nomatch h) (And.intro rfl (And.intro rfl (And.intro trivial (And.intro trivial ?_)))))))))
        refine Or.inl ?_
        have hy := someE hF
        subst hy
        refine And.intro rfl (Exists.intro [] (Exists.intro [] (Exists.intro [] (Exists.intro [] (Exists.intro [(0, some 3), (1, some 4)] (And.intro rfl (And.intro rfl (And.intro (And.intro rfl trivial) (And.intro rfl (And.intro rfl trivial))))))))))
      · refine Or.inl ?_
        refine condI hF (fun hF => ?_) (fun hF => ?_)
        · refine Or.inl ?_
          obtain ⟨r4, hr4, hF⟩ := bindE hF
          refine Or.inl (And.intro f84_in (callV0 (callI C84 ((a.1, a.2), (b.1, b.2)) r4 [] false C84_holds hr4 rfl rfl ?_)))
          refine (And.intro rfl (And.intro rfl (And.intro rfl (And.intro rfl (And.intro (fun h => nomatch h) (And.intro rfl (And.intro rfl (And.intro trivial (And.intro trivial ?_)))))))))
          refine Or.inl ?_
          have hy := someE hF
          subst hy
          refine And.intro rfl (Exists.intro [] (Exists.intro [] (Exists.intro [] (Exists.intro [] (Exists.intro [(0, some 3), (1, some 4)] (And.intro rfl (And.intro rfl (And.intro (And.intro rfl trivial) (And.intro rfl (And.intro rfl trivial))))))))))
        · refine Or.inl ?_
          obtain ⟨r5, hr5, hF⟩ := bindE hF
          refine Or.inl (And.intro f85_in (callV0 (callI C85 ((a.1, a.2), (b.1, b.2), k) r5 [] false C85_holds hr5 rfl rfl ?_)))
          refine (And.intro rfl (And.intro rfl (And.intro rfl (And.intro rfl (And.intro rfl (And.intro (fun h => nomatch h) (And.intro rfl (And.intro rfl (And.intro trivial (And.intro trivial ?_))))))))))
          refine Or.inl ?_
          have hy := someE hF
          subst hy
          refine And.intro rfl (Exists.intro [] (Exists.intro [] (Exists.intro [] (Exists.intro [] (Exists.intro [(0, some 3), (1, some 4)] (And.intro rfl (And.intro rfl (And.intro (And.intro rfl trivial) (And.intro rfl (And.intro rfl trivial))))))))))
theorem C42_holds : C42.Holds Tryz.prog 42 := holds_of_vc tab_ok mixed (fn := Tryz.f42) (by kernel_rfl) rfl C42 (fun x y hF => C42_vc x.1 x.2.1 x.2.2.1 x.2.2.2 y hF)
theorem f42_in : ∃ fn, Tryz.prog.funcs[42]? = some fn ∧ fn.body.isSome = true ∧ (fn.name == "runtime.NumGoroutine") = false := ⟨Tryz.f42, by kernel_rfl, by kernel_rfl, by kernel_rfl⟩
end Go.Proofs
namespace Go.Proofs
open Go.AM
-- carousel/tens.Scale
def f86_l1 (k : Int) (r1 : (List Int) × (List Int)) (go : (Int × (List Int)) → Option (List Int)) (v18 : Int) (l2 : List Int) : Option (List Int) :=
  bif (decide (v18 < (List.length r1.2 : Int))) then
    guardF (0 ≤ v18 ∧ v18 < (List.length l2 : Int)) <|
    bindF (f127 (rd (0 : Int) l2 v18) k) fun q7_5 =>
    guardF (0 ≤ v18 ∧ v18 < (List.length l2 : Int)) <|
    go ((IntKind.i64.wrap (v18 + (1 : Int))), (List.set l2 (Int.toNat v18) q7_5))
  else
    some l2
def f86 (a : (List Int) × (List Int)) (k : Int) : Option (Int × (List Int) × (List Int)) :=
  bindF (f33 (a.1, a.2)) fun q7_7 =>
  bif (!q7_7) then
    some ((1 : Int), [], [])
  else
    bindF (f35 (a.1, a.2)) fun r1 =>
    bindF (loopF (fun go x => f86_l1 k r1 go x.1 x.2) fuelN ((0 : Int), r1.2)) fun z2 =>
    some ((0 : Int), r1.1, z2)
def C86 : Con where
  X := ((List Int) × (List Int)) × Int
  Y := Int × (List Int) × (List Int)
  e := 0
  args x := [.dat (.p (.sl (.int .i64)) (.sl (.int .i64))) x.1, .dat (.int .i64) x.2]
  hin x := []
  F x := f86 x.1 x.2
  ret y := [.raw true [(.osl 0), (.osl 1)], .dat (.int .i64) y.1]
  hout y := [(0, .arr 3 (.int .i64) y.2.1), (1, .arr 33 (.int .i64) y.2.2)]
  nout := 2
theorem C86_vc (a : (List Int) × (List Int)) (k : Int) (y : Int × (List Int) × (List Int)) (hF : f86 a k = some y) : vc Tryz.prog tab Tryz.f86.ntmps 0 (match Tryz.f86.body with | some c => c | none => .skip) (retK tab C86 Tryz.f86.results.toList y) (C86.shIn (a, k)).st := by
  unfold f86 at hF
  refine Or.inl ?_
  refine Or.inl ?_
  refine Or.inl ?_
  obtain ⟨q7_7, hq7_7, hF⟩ := bindE hF
  refine Or.inl (And.intro f33_in (callV0 (callI C33 (a.1, a.2) q7_7 [] false C33_holds hq7_7 rfl rfl ?_)))
  refine (And.intro rfl (And.intro rfl (And.intro (fun h => nomatch h) (And.intro rfl (And.intro rfl (And.intro trivial (And.intro trivial ?_)))))))
  refine condI hF (fun hF => ?_) (fun hF => ?_)
  · refine Or.inl ?_
    refine Or.inl ?_
    have hy := someE hF
    subst hy
    refine And.intro rfl (Exists.intro [] (Exists.intro [] (Exists.intro [] (Exists.intro [] (Exists.intro [(0, none), (1, none)] (And.intro rfl (And.intro rfl (And.intro (And.intro rfl trivial) (And.intro rfl (And.intro rfl trivial))))))))))
  · refine Or.inl ?_
    obtain ⟨r1, hr1, hF⟩ := bindE hF
    refine Or.inl (And.intro f35_in (callV0 (callI C35 (a.1, a.2) r1 [] false C35_holds hr1 rfl rfl ?_)))
    refine (And.intro rfl (And.intro rfl (And.intro (fun h => nomatch h) (And.intro rfl (And.intro rfl (And.intro trivial (And.intro trivial ?_)))))))
    refine Or.inl ?_
    refine Or.inl ?_
    refine Or.inl ?_
    obtain ⟨z2, hz2, hF⟩ := bindE hF
    refine loopI (Int × (List Int)) (List Int) (fun x => ⟨[(1, .dat (.int .i64) k), (4, .raw false [(.ptr 0 0)]), (6, .raw false [(.ptr 1 0)]), (16, .raw false [(.osl 2)]), (17, .dat (.int .i64) (List.length r1.2 : Int)), (18, .dat (.int .i64) x.1)], [(0, .cells [(.c (.slice none 0 0)), (.c (.slice none 0 0))]), (1, .cells [(.osl 3), (.osl 2)]), (2, .arr 33 (.int .i64) x.2), (3, .arr 3 (.int .i64) r1.1)], 4⟩) (fun z => [(2, ⟨[(4, .raw false [(.ptr 0 0)]), (6, .raw false [(.ptr 1 0)])], [(0, .cells [(.c (.slice none 0 0)), (.c (.slice none 0 0))]), (1, .cells [(.osl 2), (.osl 3)]), (2, .arr 3 (.int .i64) r1.1), (3, .arr 33 (.int .i64) z)], 4⟩)]) (loopF (fun go x => f86_l1 k r1 go x.1 x.2)) fuelN ((0 : Int), r1.2) z2 (And.intro hz2 (And.intro (Exists.intro [] (Exists.intro [] (Exists.intro [] (Exists.intro [] (Exists.intro [(0, some 1), (1, some 4), (2, some 3), (3, some 2)] (And.intro rfl (And.intro rfl (And.intro rfl (And.intro rfl (And.intro (And.intro rfl (And.intro rfl (And.intro rfl trivial))) (And.intro rfl (And.intro rfl (And.intro rfl (And.intro rfl trivial)))))))))))))) (And.intro (fun _ _ h => loopZ h) (And.intro (fun m => curI (fun v18 => fun l2 z hF => ?_)) ?_))))
    · have hF : f86_l1 k r1 (loopF (fun go x => f86_l1 k r1 go x.1 x.2) m) v18 l2 = some z := hF
      unfold f86_l1 at hF
      refine Or.inl ?_
      refine Or.inl ?_
      refine condI hF (fun hF => ?_) (fun hF => ?_)
      · refine Or.inl ?_
        refine Or.inl ?_
        refine guardI hF (fun hF => ?_)
        refine Exists.intro (.take 0 (.take 1 (.take 2 (.take 3 (.take 4 (.alt 5 (.take 6 (.alt 7 .done .done)) .done)))))) (Exists.intro [] (Exists.intro [] (And.intro rfl ?_)))
        refine And.intro trivial ?_
        obtain ⟨q7_5, hq7_5, hF⟩ := bindE hF
        refine Or.inl (And.intro f127_in (callV0 (callI C127 ((rd (0 : Int) l2 v18), k) q7_5 [] false C127_holds hq7_5 rfl rfl ?_)))
        refine (And.intro rfl (And.intro rfl (And.intro (fun h => nomatch h) (And.intro rfl (And.intro rfl (And.intro trivial (And.intro trivial ?_)))))))
        refine guardI hF (fun hF => ?_)
        refine And.intro trivial ?_
        refine Or.inl ?_
        refine Exists.intro ((IntKind.i64.wrap (v18 + (1 : Int))), (List.set l2 (Int.toNat v18) q7_5)) (And.intro hF (Exists.intro [] (Exists.intro [] (Exists.intro [] (Exists.intro [] (Exists.intro [(0, some 0), (1, some 1), (2, some 2), (3, some 3)] (And.intro rfl (And.intro rfl (And.intro rfl (And.intro rfl (And.intro (And.intro rfl (And.intro rfl (And.intro rfl trivial))) (And.intro rfl (And.intro rfl (And.intro rfl (And.intro rfl trivial)))))))))))))))
      · have hz := someE hF
        subst hz
        refine Exists.intro [] (Exists.intro [] (Exists.intro [] (Exists.intro [] (Exists.intro [(0, some 0), (1, some 1), (2, some 3), (3, some 2)] (And.intro rfl (And.intro (And.intro rfl (And.intro rfl trivial)) (And.intro rfl (And.intro rfl (And.intro rfl (And.intro rfl trivial))))))))))
    · refine And.intro ?_ trivial
      refine Or.inl ?_
      refine Or.inl ?_
      have hy := someE hF
      subst hy
      refine And.intro rfl (Exists.intro [] (Exists.intro [] (Exists.intro [] (Exists.intro [] (Exists.intro [(0, some 2), (1, some 3)] (And.intro rfl (And.intro rfl (And.intro (And.intro rfl trivial) (And.intro rfl (And.intro rfl trivial))))))))))
theorem C86_holds : C86.Holds Tryz.prog 86 := holds_of_vc tab_ok mixed (fn := Tryz.f86) (by kernel_rfl) rfl C86 (fun x y hF => C86_vc x.1 x.2 y hF)
theorem f86_in : ∃ fn, Tryz.prog.funcs[86]? = some fn ∧ fn.body.isSome = true ∧ (fn.name == "runtime.NumGoroutine") = false := ⟨Tryz.f86, by kernel_rfl, by kernel_rfl, by kernel_rfl⟩
end Go.Proofs
