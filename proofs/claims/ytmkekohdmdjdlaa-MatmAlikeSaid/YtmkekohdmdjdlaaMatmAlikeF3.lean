import Derived.Test.YtmkekohdmdjdlaaMatmAlikeF2
set_option linter.unusedVariables false
set_option maxRecDepth 100000
set_option maxHeartbeats 8000000
namespace Go.Proofs
open Go.AM
-- carousel/fix.Div
def f81_j3 (r2 : Int) (r4 : Int × Int) : Option Bool :=
  bif (decide (r4.2 > (IntKind.u64.wrap (r2 - r4.2)))) then
    some true
  else
    bif (r4.2 == (IntKind.u64.wrap (r2 - r4.2))) then
      some ((bitsOf IntKind.u64 (fun p q => p &&& q) r4.1 (1 : Int)) == (1 : Int))
    else
      some false
def f81_j2 (r2 : Int) (r4 : Int × Int) : Option (Int × Int) :=
  bindF (f81_j3 r2 r4) fun z8 =>
  bif z8 then
    bindF (add64 r4.1 (1 : Int) (0 : Int)) fun r9 =>
    some (r9.1, r9.2)
  else
    some (r4.1, (0 : Int))
def f81 (a : Int) (b : Int) : Option Int :=
  bif (b == (0 : Int)) then
    bif (decide (a > (0 : Int))) then
      some (9223372036854775807 : Int)
    else
      bif (decide (a < (0 : Int))) then
        some (-9223372036854775808 : Int)
      else
        some (0 : Int)
  else
    bindF (f98 a) fun r1 =>
    bindF (f98 b) fun r2 =>
    bif (decide ((Int.fdiv r1 (2 ^ min (Int.toNat (32 : Int)) (IntKind.bits IntKind.u64))) ≥ r2)) then
      bindF (f99 (1 : Int) (0 : Int) (!((decide (a < (0 : Int))) == (decide (b < (0 : Int)))))) fun r3 =>
      some r3
    else
      bindF (f85 (Int.fdiv r1 (2 ^ min (Int.toNat (32 : Int)) (IntKind.bits IntKind.u64))) (IntKind.u64.wrap (r1 * 2 ^ min (Int.toNat (32 : Int)) (IntKind.bits IntKind.u64))) r2) fun r4 =>
      bindF (f81_j2 r2 r4) fun z7 =>
      bindF (f99 z7.2 z7.1 (!((decide (a < (0 : Int))) == (decide (b < (0 : Int)))))) fun r10 =>
      some r10
def C81 : Con where
  X := Int × Int
  Y := Int
  e := 0
  args x := [.dat (.int .i64) x.1, .dat (.int .i64) x.2]
  hin x := []
  F x := f81 x.1 x.2
  ret y := [.dat (.int .i64) y]
  hout y := []
  nout := 0
theorem C81_vc (a : Int) (b : Int) (y : Int) (hF : f81 a b = some y) : vc Try.prog tab Try.f81.ntmps 0 (match Try.f81.body with | some c => c | none => .skip) (retK tab C81 Try.f81.results.toList y) (C81.shIn (a, b)).st := by
  unfold f81 at hF
  refine Or.inl ?_
  refine Or.inl ?_
  refine Or.inl ?_
  refine condI hF (fun hF => ?_) (fun hF => ?_)
  · refine Or.inl ?_
    refine Or.inl ?_
    refine condI hF (fun hF => ?_) (fun hF => ?_)
    · refine Or.inl ?_
      have hy := someE hF
      subst hy
      refine And.intro rfl (Exists.intro [] (Exists.intro [] (Exists.intro [] (Exists.intro [] (Exists.intro [] (And.intro rfl (And.intro rfl (And.intro trivial trivial))))))))
    · refine Or.inl ?_
      refine condI hF (fun hF => ?_) (fun hF => ?_)
      · refine Or.inl ?_
        have hy := someE hF
        subst hy
        refine And.intro rfl (Exists.intro [] (Exists.intro [] (Exists.intro [] (Exists.intro [] (Exists.intro [] (And.intro rfl (And.intro rfl (And.intro trivial trivial))))))))
      · refine Or.inl ?_
        have hy := someE hF
        subst hy
        refine And.intro rfl (Exists.intro [] (Exists.intro [] (Exists.intro [] (Exists.intro [] (Exists.intro [] (And.intro rfl (And.intro rfl (And.intro trivial trivial))))))))
  · refine Or.inl ?_
    obtain ⟨r1, hr1, hF⟩ := bindE hF
    refine Or.inl (And.intro f98_in (callV0 (callI C98 a r1 [] false C98_holds hr1 rfl rfl ?_)))
    refine (And.intro rfl (And.intro (fun h => nomatch h) (And.intro rfl (And.intro rfl (And.intro trivial (And.intro trivial ?_))))))
    obtain ⟨r2, hr2, hF⟩ := bindE hF
    refine Or.inl (And.intro f98_in (callV0 (callI C98 b r2 [] false C98_holds hr2 rfl rfl ?_)))
    refine (And.intro rfl (And.intro (fun h => nomatch h) (And.intro rfl (And.intro rfl (And.intro trivial (And.intro trivial ?_))))))
    refine Or.inl ?_
    refine Or.inl ?_
    refine And.intro (by decide) ?_
    refine And.intro (by decide) ?_
    refine Or.inl ?_
    refine Or.inl ?_
    refine condI hF (fun hF => ?_) (fun hF => ?_)
    · refine Or.inl ?_
      obtain ⟨r3, hr3, hF⟩ := bindE hF
      refine Or.inl (And.intro f99_in (callV0 (callI C99 ((1 : Int), (0 : Int), (!((decide (a < (0 : Int))) == (decide (b < (0 : Int)))))) r3 [] false C99_holds hr3 rfl rfl ?_)))
      refine (And.intro rfl (And.intro rfl (And.intro rfl (And.intro (fun h => nomatch h) (And.intro rfl (And.intro rfl (And.intro trivial (And.intro trivial ?_))))))))
      have hy := someE hF
      subst hy
      refine And.intro rfl (Exists.intro [] (Exists.intro [] (Exists.intro [] (Exists.intro [] (Exists.intro [] (And.intro rfl (And.intro rfl (And.intro trivial trivial))))))))
    · refine Or.inl ?_
      obtain ⟨r4, hr4, hF⟩ := bindE hF
      refine Or.inl (And.intro f85_in (callV0 (callI C85 ((Int.fdiv r1 (2 ^ min (Int.toNat (32 : Int)) (IntKind.bits IntKind.u64))), (IntKind.u64.wrap (r1 * 2 ^ min (Int.toNat (32 : Int)) (IntKind.bits IntKind.u64))), r2) r4 [] false C85_holds hr4 rfl rfl ?_)))
      refine (And.intro rfl (And.intro rfl (And.intro rfl (And.intro (fun h => nomatch h) (And.intro rfl (And.intro rfl (And.intro trivial (And.intro trivial ?_))))))))
      refine Or.inl ?_
      obtain ⟨z7, hz7, hF⟩ := bindE hF
      refine Or.inr ⟨[(0, ⟨[(7, .dat .bool (!((decide (a < (0 : Int))) == (decide (b < (0 : Int)))))), (10, .dat (.int .u64) z7.1), (12, .dat (.int .u64) z7.2)], [], 0⟩)], ?_, ?_⟩
      · have hF := hz7
        clear hz7
        unfold f81_j2 at hF
        obtain ⟨z8, hz8, hF⟩ := bindE hF
        refine Or.inr ⟨[(0, ⟨[(7, .dat .bool (!((decide (a < (0 : Int))) == (decide (b < (0 : Int)))))), (10, .dat (.int .u64) r4.1), (12, .dat (.int .u64) (0 : Int)), (62, .dat .bool z8)], [], 0⟩)], ?_, ?_⟩
        · have hF := hz8
          clear hz8
          unfold f81_j3 at hF
          refine condN hF (fun hF => ?_) (fun hF => ?_)
          · refine gdYF ?_
            refine gdYF ?_
            refine gdYF ?_
            refine gdYF ?_
            refine gdYF ?_
            refine condI hF (fun hF => ?_) (fun hF => ?_)
            · refine gdYT ?_
              refine gdYT ?_
              refine gdYF ?_
              refine condT ?_
              refine condF ?_
              have hz := someE hF
              subst hz
              refine Exists.intro [] (Exists.intro [] (Exists.intro [] (Exists.intro [] (Exists.intro [] (And.intro rfl (And.intro rfl (And.intro rfl (And.intro rfl (And.intro rfl (And.intro trivial trivial))))))))))
            · refine gdNT ?_
              refine gdNT ?_
              refine gdYF ?_
              refine condF ?_
              refine condF ?_
              have hz := someE hF
              subst hz
              refine Exists.intro [] (Exists.intro [] (Exists.intro [] (Exists.intro [] (Exists.intro [] (And.intro rfl (And.intro rfl (And.intro rfl (And.intro rfl (And.intro rfl (And.intro trivial trivial))))))))))
          · refine gdNF ?_
            refine gdNF ?_
            refine gdNF ?_
            refine gdNF ?_
            refine gdNF ?_
            refine gdNF ?_
            refine condT ?_
            have hz := someE hF
            subst hz
            refine Exists.intro [] (Exists.intro [] (Exists.intro [] (Exists.intro [] (Exists.intro [] (And.intro rfl (And.intro rfl (And.intro rfl (And.intro rfl (And.intro rfl (And.intro trivial trivial))))))))))
        · refine And.intro ?_ trivial
          refine condI hF (fun hF => ?_) (fun hF => ?_)
          · obtain ⟨r9, hr9, hF⟩ := bindE hF
            refine Or.inr ⟨ext3 add64, [r9.1, r9.2], add64_ok, And.intro (ext3I hr9) ?_⟩
            have hz := someE hF
            subst hz
            refine Exists.intro [] (Exists.intro [] (Exists.intro [] (Exists.intro [] (Exists.intro [] (And.intro rfl (And.intro rfl (And.intro rfl (And.intro rfl (And.intro trivial trivial)))))))))
          · have hz := someE hF
            subst hz
            refine Exists.intro [] (Exists.intro [] (Exists.intro [] (Exists.intro [] (Exists.intro [] (And.intro rfl (And.intro rfl (And.intro rfl (And.intro rfl (And.intro trivial trivial)))))))))
      · refine And.intro ?_ trivial
        refine Or.inl ?_
        obtain ⟨r10, hr10, hF⟩ := bindE hF
        refine Or.inl (And.intro f99_in (callV0 (callI C99 (z7.2, z7.1, (!((decide (a < (0 : Int))) == (decide (b < (0 : Int)))))) r10 [] false C99_holds hr10 rfl rfl ?_)))
        refine (And.intro rfl (And.intro rfl (And.intro rfl (And.intro (fun h => nomatch h) (And.intro rfl (And.intro rfl (And.intro trivial (And.intro trivial ?_))))))))
        have hy := someE hF
        subst hy
        refine And.intro rfl (Exists.intro [] (Exists.intro [] (Exists.intro [] (Exists.intro [] (Exists.intro [] (And.intro rfl (And.intro rfl (And.intro trivial trivial))))))))
theorem C81_holds : C81.Holds Try.prog 81 := holds_of_vc tab_ok mixed (fn := Try.f81) (by kernel_rfl) rfl C81 (fun x y hF => C81_vc x.1 x.2 y hF)
theorem f81_in : ∃ fn, Try.prog.funcs[81]? = some fn ∧ fn.body.isSome = true ∧ (fn.name == "runtime.NumGoroutine") = false := ⟨Try.f81, by kernel_rfl, by kernel_rfl, by kernel_rfl⟩
end Go.Proofs
namespace Go.Proofs
open Go.AM
-- carousel/wide.magnitude
def f83 (a : Int × Int) : Option (Int × Int × Bool) :=
  bif (decide (a.1 < (0 : Int))) then
    bindF (f86 (a.1, a.2)) fun q4_7 =>
    some ((IntKind.u64.wrap q4_7.1), q4_7.2, true)
  else
    some ((IntKind.u64.wrap a.1), a.2, false)
def C83 : Con where
  X := Int × Int
  Y := Int × Int × Bool
  e := 0
  args x := [.dat (.p (.int .i64) (.int .u64)) x]
  hin x := []
  F x := f83 x
  ret y := [.dat (.int .u64) y.1, .dat (.int .u64) y.2.1, .dat .bool y.2.2]
  hout y := []
  nout := 0
theorem C83_vc (a : Int × Int) (y : Int × Int × Bool) (hF : f83 a = some y) : vc Try.prog tab Try.f83.ntmps 0 (match Try.f83.body with | some c => c | none => .skip) (retK tab C83 Try.f83.results.toList y) (C83.shIn a).st := by
  unfold f83 at hF
  refine Or.inl ?_
  refine Or.inl ?_
  refine Or.inl ?_
  refine condI hF (fun hF => ?_) (fun hF => ?_)
  · refine Or.inl ?_
    obtain ⟨q4_7, hq4_7, hF⟩ := bindE hF
    refine Or.inl (And.intro f86_in (callV0 (callI C86 (a.1, a.2) q4_7 [] false C86_holds hq4_7 rfl rfl ?_)))
    refine (And.intro rfl (And.intro rfl (And.intro (fun h => nomatch h) (And.intro rfl (And.intro rfl (And.intro trivial (And.intro trivial ?_)))))))
    refine Or.inl ?_
    refine Or.inl ?_
    refine Exists.intro (.take 0 (.take 1 (.take 2 (.take 3 (.take 4 (.take 5 (.take 6 (.take 7 .done)))))))) (Exists.intro [] (Exists.intro [] (And.intro rfl ?_)))
    have hy := someE hF
    subst hy
    refine And.intro rfl (Exists.intro [] (Exists.intro [] (Exists.intro [] (Exists.intro [] (Exists.intro [] (And.intro rfl (And.intro rfl (And.intro rfl (And.intro rfl (And.intro trivial trivial))))))))))
  · refine Or.inl ?_
    refine Exists.intro (.take 0 (.take 1 (.take 2 (.take 3 (.take 4 (.take 5 (.take 6 (.take 7 .done)))))))) (Exists.intro [] (Exists.intro [] (And.intro rfl ?_)))
    have hy := someE hF
    subst hy
    refine And.intro rfl (Exists.intro [] (Exists.intro [] (Exists.intro [] (Exists.intro [] (Exists.intro [] (And.intro rfl (And.intro rfl (And.intro rfl (And.intro rfl (And.intro trivial trivial))))))))))
theorem C83_holds : C83.Holds Try.prog 83 := holds_of_vc tab_ok mixed (fn := Try.f83) (by kernel_rfl) rfl C83 (fun x y hF => C83_vc x y hF)
theorem f83_in : ∃ fn, Try.prog.funcs[83]? = some fn ∧ fn.body.isSome = true ∧ (fn.name == "runtime.NumGoroutine") = false := ⟨Try.f83, by kernel_rfl, by kernel_rfl, by kernel_rfl⟩
end Go.Proofs
namespace Go.Proofs
open Go.AM
-- carousel/wide.Over
def f55_j3 (r4 : Int) (q6_7 : Int × Int) : Option Bool :=
  bif (decide (q6_7.2 > (IntKind.u64.wrap (r4 - q6_7.2)))) then
    some true
  else
    bif (q6_7.2 == (IntKind.u64.wrap (r4 - q6_7.2))) then
      some ((bitsOf IntKind.u64 (fun p q => p &&& q) q6_7.1 (1 : Int)) == (1 : Int))
    else
      some false
def f55_j2 (r3 : Int × Int × Bool) (r4 : Int) (q6_7 : Int × Int) : Option (Int × Int) :=
  bindF (f55_j3 r4 q6_7) fun z8 =>
  bif z8 then
    bindF (add64 q6_7.1 (1 : Int) (0 : Int)) fun r9 =>
    some ((IntKind.u64.wrap ((IntKind.u64.wrap (Int.tdiv r3.1 r4)) + r9.2)), r9.1)
  else
    some ((IntKind.u64.wrap (Int.tdiv r3.1 r4)), q6_7.1)
def f55 (a : Int × Int) (n : Int) : Option Int :=
  bif (n == (0 : Int)) then
    bindF (f82 (a.1, a.2) ((0 : Int), (0 : Int))) fun r1 =>
    bindF (f81 r1 (0 : Int)) fun r2 =>
    some r2
  else
    bindF (f83 (a.1, a.2)) fun r3 =>
    bindF (f84 n) fun r4 =>
    guardF (r4 ≠ 0) <|
    guardF (r4 ≠ 0) <|
    bindF (f85 (Int.tmod r3.1 r4) r3.2.1 r4) fun q6_7 =>
    bindF (f55_j2 r3 r4 q6_7) fun z7 =>
    bif (!(r3.2.2 == (decide (n < (0 : Int))))) then
      bindF (f86 ((IntKind.i64.wrap (if (9223372036854775807 : Int) < z7.1 then (9223372036854775807 : Int) else z7.1)), z7.2)) fun r10 =>
      bindF (f53 (r10.1, r10.2)) fun r11 =>
      some r11
    else
      bindF (f53 ((IntKind.i64.wrap (if (9223372036854775807 : Int) < z7.1 then (9223372036854775807 : Int) else z7.1)), z7.2)) fun r12 =>
      some r12
def C55 : Con where
  X := (Int × Int) × Int
  Y := Int
  e := 0
  args x := [.dat (.p (.int .i64) (.int .u64)) x.1, .dat (.int .i64) x.2]
  hin x := []
  F x := f55 x.1 x.2
  ret y := [.dat (.int .i64) y]
  hout y := []
  nout := 0
theorem C55_vc (a : Int × Int) (n : Int) (y : Int) (hF : f55 a n = some y) : vc Try.prog tab Try.f55.ntmps 0 (match Try.f55.body with | some c => c | none => .skip) (retK tab C55 Try.f55.results.toList y) (C55.shIn (a, n)).st := by
  unfold f55 at hF
  refine Or.inl ?_
  refine Or.inl ?_
  refine Or.inl ?_
  refine condI hF (fun hF => ?_) (fun hF => ?_)
  · refine Or.inl ?_
    obtain ⟨r1, hr1, hF⟩ := bindE hF
    refine Or.inl (And.intro f82_in (callV0 (callI C82 ((a.1, a.2), ((0 : Int), (0 : Int))) r1 [] false C82_holds hr1 rfl rfl ?_)))
    refine (And.intro rfl (And.intro rfl (And.intro rfl (And.intro rfl (And.intro (fun h => nomatch h) (And.intro rfl (And.intro rfl (And.intro trivial (And.intro trivial ?_)))))))))
    obtain ⟨r2, hr2, hF⟩ := bindE hF
    refine Or.inl (And.intro f81_in (callV0 (callI C81 (r1, (0 : Int)) r2 [] false C81_holds hr2 rfl rfl ?_)))
    refine (And.intro rfl (And.intro rfl (And.intro (fun h => nomatch h) (And.intro rfl (And.intro rfl (And.intro trivial (And.intro trivial ?_)))))))
    have hy := someE hF
    subst hy
    refine And.intro rfl (Exists.intro [] (Exists.intro [] (Exists.intro [] (Exists.intro [] (Exists.intro [] (And.intro rfl (And.intro rfl (And.intro trivial trivial))))))))
  · refine Or.inl ?_
    obtain ⟨r3, hr3, hF⟩ := bindE hF
    refine Or.inl (And.intro f83_in (callV0 (callI C83 (a.1, a.2) r3 [] false C83_holds hr3 rfl rfl ?_)))
    refine (And.intro rfl (And.intro rfl (And.intro (fun h => nomatch h) (And.intro rfl (And.intro rfl (And.intro trivial (And.intro trivial ?_)))))))
    refine Or.inl ?_
    obtain ⟨r4, hr4, hF⟩ := bindE hF
    refine Or.inl (And.intro f84_in (callV0 (callI C84 n r4 [] false C84_holds hr4 rfl rfl ?_)))
    refine (And.intro rfl (And.intro (fun h => nomatch h) (And.intro rfl (And.intro rfl (And.intro trivial (And.intro trivial ?_))))))
    refine Or.inl ?_
    refine Or.inl ?_
    refine Exists.intro (.take 0 (.take 1 (.take 2 (.take 3 (.take 4 (.take 5 (.take 6 (.take 7 .done)))))))) (Exists.intro [] (Exists.intro [] (And.intro rfl ?_)))
    refine guardI hF (fun hF => ?_)
    refine guardI hF (fun hF => ?_)
    refine Or.inl ?_
    obtain ⟨q6_7, hq6_7, hF⟩ := bindE hF
    refine Or.inl (And.intro f85_in (callV0 (callI C85 ((Int.tmod r3.1 r4), r3.2.1, r4) q6_7 [] false C85_holds hq6_7 rfl rfl ?_)))
    refine (And.intro rfl (And.intro rfl (And.intro rfl (And.intro (fun h => nomatch h) (And.intro rfl (And.intro rfl (And.intro trivial (And.intro trivial ?_))))))))
    obtain ⟨z7, hz7, hF⟩ := bindE hF
    refine Or.inr ⟨[(0, ⟨[(7, .dat .bool (!(r3.2.2 == (decide (n < (0 : Int)))))), (9, .dat (.int .u64) z7.1), (11, .dat (.int .u64) z7.2)], [], 0⟩)], ?_, ?_⟩
    · have hF := hz7
      clear hz7
      unfold f55_j2 at hF
      obtain ⟨z8, hz8, hF⟩ := bindE hF
      refine Or.inr ⟨[(0, ⟨[(7, .dat .bool (!(r3.2.2 == (decide (n < (0 : Int)))))), (9, .dat (.int .u64) (IntKind.u64.wrap (Int.tdiv r3.1 r4))), (11, .dat (.int .u64) q6_7.1), (61, .dat .bool z8)], [], 0⟩)], ?_, ?_⟩
      · have hF := hz8
        clear hz8
        unfold f55_j3 at hF
        refine condN hF (fun hF => ?_) (fun hF => ?_)
        · refine gdYF ?_
          refine gdYF ?_
          refine gdYF ?_
          refine gdYF ?_
          refine gdYF ?_
          refine condI hF (fun hF => ?_) (fun hF => ?_)
          · refine gdYT ?_
            refine gdYT ?_
            refine gdYF ?_
            refine condT ?_
            refine condF ?_
            have hz := someE hF
            subst hz
            refine Exists.intro [] (Exists.intro [] (Exists.intro [] (Exists.intro [] (Exists.intro [] (And.intro rfl (And.intro rfl (And.intro rfl (And.intro rfl (And.intro rfl (And.intro trivial trivial))))))))))
          · refine gdNT ?_
            refine gdNT ?_
            refine gdYF ?_
            refine condF ?_
            refine condF ?_
            have hz := someE hF
            subst hz
            refine Exists.intro [] (Exists.intro [] (Exists.intro [] (Exists.intro [] (Exists.intro [] (And.intro rfl (And.intro rfl (And.intro rfl (And.intro rfl (And.intro rfl (And.intro trivial trivial))))))))))
        · refine gdNF ?_
          refine gdNF ?_
          refine gdNF ?_
          refine gdNF ?_
          refine gdNF ?_
          refine gdNF ?_
          refine condT ?_
          have hz := someE hF
          subst hz
          refine Exists.intro [] (Exists.intro [] (Exists.intro [] (Exists.intro [] (Exists.intro [] (And.intro rfl (And.intro rfl (And.intro rfl (And.intro rfl (And.intro rfl (And.intro trivial trivial))))))))))
      · refine And.intro ?_ trivial
        refine condI hF (fun hF => ?_) (fun hF => ?_)
        · refine Or.inl ?_
          refine Or.inl ?_
          obtain ⟨r9, hr9, hF⟩ := bindE hF
          refine Or.inr ⟨ext3 add64, [r9.1, r9.2], add64_ok, And.intro (ext3I hr9) ?_⟩
          have hz := someE hF
          subst hz
          refine Exists.intro [] (Exists.intro [] (Exists.intro [] (Exists.intro [] (Exists.intro [] (And.intro rfl (And.intro rfl (And.intro rfl (And.intro rfl (And.intro trivial trivial)))))))))
        · have hz := someE hF
          subst hz
          refine Exists.intro [] (Exists.intro [] (Exists.intro [] (Exists.intro [] (Exists.intro [] (And.intro rfl (And.intro rfl (And.intro rfl (And.intro rfl (And.intro trivial trivial)))))))))
    · refine And.intro ?_ trivial
      refine Or.inl ?_
      refine Or.inl ?_
      refine Or.inl ?_
      refine Or.inl ?_
      refine condI hF (fun hF => ?_) (fun hF => ?_)
      · refine Or.inl ?_
        obtain ⟨r10, hr10, hF⟩ := bindE hF
        refine Or.inl (And.intro f86_in (callV0 (callI C86 ((IntKind.i64.wrap (if (9223372036854775807 : Int) < z7.1 then (9223372036854775807 : Int) else z7.1)), z7.2) r10 [] false C86_holds hr10 rfl rfl ?_)))
        refine (And.intro rfl (And.intro rfl (And.intro (fun h => nomatch h) (And.intro rfl (And.intro rfl (And.intro trivial (And.intro trivial ?_)))))))
        obtain ⟨r11, hr11, hF⟩ := bindE hF
        refine Or.inl (And.intro f53_in (callV0 (callI C53 (r10.1, r10.2) r11 [] false C53_holds hr11 rfl rfl ?_)))
        refine (And.intro rfl (And.intro rfl (And.intro (fun h => nomatch h) (And.intro rfl (And.intro rfl (And.intro trivial (And.intro trivial ?_)))))))
        have hy := someE hF
        subst hy
        refine And.intro rfl (Exists.intro [] (Exists.intro [] (Exists.intro [] (Exists.intro [] (Exists.intro [] (And.intro rfl (And.intro rfl (And.intro trivial trivial))))))))
      · refine Or.inl ?_
        obtain ⟨r12, hr12, hF⟩ := bindE hF
        refine Or.inl (And.intro f53_in (callV0 (callI C53 ((IntKind.i64.wrap (if (9223372036854775807 : Int) < z7.1 then (9223372036854775807 : Int) else z7.1)), z7.2) r12 [] false C53_holds hr12 rfl rfl ?_)))
        refine (And.intro rfl (And.intro rfl (And.intro (fun h => nomatch h) (And.intro rfl (And.intro rfl (And.intro trivial (And.intro trivial ?_)))))))
        have hy := someE hF
        subst hy
        refine And.intro rfl (Exists.intro [] (Exists.intro [] (Exists.intro [] (Exists.intro [] (Exists.intro [] (And.intro rfl (And.intro rfl (And.intro trivial trivial))))))))
theorem C55_holds : C55.Holds Try.prog 55 := holds_of_vc tab_ok mixed (fn := Try.f55) (by kernel_rfl) rfl C55 (fun x y hF => C55_vc x.1 x.2 y hF)
theorem f55_in : ∃ fn, Try.prog.funcs[55]? = some fn ∧ fn.body.isSome = true ∧ (fn.name == "runtime.NumGoroutine") = false := ⟨Try.f55, by kernel_rfl, by kernel_rfl, by kernel_rfl⟩
end Go.Proofs
namespace Go.Proofs
open Go.AM
-- carousel/matm.Mean
def f25 (a : (List Int) × (List Int)) : Option (Int × Int) :=
  bindF (f42 (a.1, a.2)) fun q3_8 =>
  bif (!q3_8) then
    some ((0 : Int), (1 : Int))
  else
    bindF (f54 a.2) fun q3_2 =>
    bindF (f55 (q3_2.1, q3_2.2) (List.length a.2 : Int)) fun q3_6 =>
    some (q3_6, (0 : Int))
def C25 : Con where
  X := (List Int) × (List Int)
  Y := Int × Int
  e := 0
  args x := [.dat (.p (.sl (.int .i64)) (.sl (.int .i64))) x]
  hin x := []
  F x := f25 x
  ret y := [.dat (.int .i64) y.1, .dat (.int .i64) y.2]
  hout y := []
  nout := 0
theorem C25_vc (a : (List Int) × (List Int)) (y : Int × Int) (hF : f25 a = some y) : vc Try.prog tab Try.f25.ntmps 0 (match Try.f25.body with | some c => c | none => .skip) (retK tab C25 Try.f25.results.toList y) (C25.shIn a).st := by
  unfold f25 at hF
  refine Or.inl ?_
  refine Or.inl ?_
  refine Or.inl ?_
  obtain ⟨q3_8, hq3_8, hF⟩ := bindE hF
  refine Or.inl (And.intro f42_in (callV0 (callI C42 (a.1, a.2) q3_8 [] false C42_holds hq3_8 rfl rfl ?_)))
  refine (And.intro rfl (And.intro rfl (And.intro (fun h => nomatch h) (And.intro rfl (And.intro rfl (And.intro trivial (And.intro trivial ?_)))))))
  refine condI hF (fun hF => ?_) (fun hF => ?_)
  · refine Or.inl ?_
    have hy := someE hF
    subst hy
    refine And.intro rfl (Exists.intro [] (Exists.intro [] (Exists.intro [] (Exists.intro [] (Exists.intro [] (And.intro rfl (And.intro rfl (And.intro rfl (And.intro trivial trivial)))))))))
  · refine Or.inl ?_
    refine Exists.intro (.take 0 (.take 1 (.take 3 (.take 4 (.take 5 (.alt 2 (.alt 6 (.take 7 (.take 8 .done)) .done) .done)))))) (Exists.intro [] (Exists.intro [] (And.intro rfl ?_)))
    refine And.intro trivial ?_
    obtain ⟨q3_2, hq3_2, hF⟩ := bindE hF
    refine Or.inl (And.intro f54_in (callV0 (callI C54 a.2 q3_2 [] false C54_holds hq3_2 rfl rfl ?_)))
    refine (And.intro rfl (And.intro (fun h => nomatch h) (And.intro rfl (And.intro rfl (And.intro trivial (And.intro trivial ?_))))))
    refine And.intro trivial ?_
    obtain ⟨q3_6, hq3_6, hF⟩ := bindE hF
    refine Or.inl (And.intro f55_in (callV0 (callI C55 ((q3_2.1, q3_2.2), (List.length a.2 : Int)) q3_6 [] false C55_holds hq3_6 rfl rfl ?_)))
    refine (And.intro rfl (And.intro rfl (And.intro rfl (And.intro (fun h => nomatch h) (And.intro rfl (And.intro rfl (And.intro trivial (And.intro trivial ?_))))))))
    have hy := someE hF
    subst hy
    refine And.intro rfl (Exists.intro [] (Exists.intro [] (Exists.intro [] (Exists.intro [] (Exists.intro [] (And.intro rfl (And.intro rfl (And.intro rfl (And.intro trivial trivial)))))))))
theorem C25_holds : C25.Holds Try.prog 25 := holds_of_vc tab_ok mixed (fn := Try.f25) (by kernel_rfl) rfl C25 (fun x y hF => C25_vc x y hF)
theorem f25_in : ∃ fn, Try.prog.funcs[25]? = some fn ∧ fn.body.isSome = true ∧ (fn.name == "runtime.NumGoroutine") = false := ⟨Try.f25, by kernel_rfl, by kernel_rfl, by kernel_rfl⟩
end Go.Proofs
namespace Go.Proofs
open Go.AM
-- carousel/carousellaw7.MatmAlike
def f8_j1 (n : Int) : Option (Sum Unit Unit) :=
  bif (decide (n < (1 : Int))) then
    some (Sum.inr ())
  else
    bif (decide (n > (200 : Int))) then
      some (Sum.inr ())
    else
      some (Sum.inl ())
def f8 (v : Int) (n : Int) : Option Bool :=
  bindF (f13) fun r1 =>
  bif (!r1) then
    some false
  else
    bindF (f8_j1 n) fun z2 =>
    sumF z2 (fun z2a =>
      bindF (f21 ([n]) v) fun r3 =>
      bindF (f25 (r3.1, r3.2)) fun r4 =>
      bindF (f21 ([(1 : Int)]) v) fun r5 =>
      bindF (f24 (r5.1, r5.2)) fun r6 =>
      bindF (f21 ([(1 : Int), n]) v) fun r7 =>
      bindF (f23 (r7.1, r7.2) (0 : Int)) fun r8 =>
      bif (r4.2 == (0 : Int)) then
        bif (r4.1 == v) then
          bif (r6.2 == (0 : Int)) then
            bif (r6.1 == v) then
              bif (r8.1 == (0 : Int)) then
                bindF (f19 (r8.2.1, r8.2.2) (r3.1, r3.2)) fun r9 =>
                some r9
              else
                some false
            else
              some false
          else
            some false
        else
          some false
      else
        some false) (fun z2b =>
      some true)
def C8 : Con where
  X := Int × Int
  Y := Bool
  e := 0
  args x := [.dat (.int .i64) x.1, .dat (.int .i64) x.2]
  hin x := []
  F x := f8 x.1 x.2
  ret y := [.dat .bool y]
  hout y := []
  nout := 0
theorem C8_vc (v : Int) (n : Int) (y : Bool) (hF : f8 v n = some y) : vc Try.prog tab Try.f8.ntmps 0 (match Try.f8.body with | some c => c | none => .skip) (retK tab C8 Try.f8.results.toList y) (C8.shIn (v, n)).st := by
  unfold f8 at hF
  refine Or.inl ?_
  refine Or.inl ?_
  refine Or.inl ?_
  obtain ⟨r1, hr1, hF⟩ := bindE hF
  refine Or.inl (And.intro f13_in (callV0 (callI C13 () r1 [] false C13_holds hr1 rfl rfl ?_)))
  refine (And.intro (fun h => nomatch h) (And.intro rfl (And.intro rfl (And.intro trivial (And.intro trivial ?_)))))
  refine condI hF (fun hF => ?_) (fun hF => ?_)
  · refine Or.inl ?_
    have hy := someE hF
    subst hy
    refine And.intro rfl (Exists.intro [] (Exists.intro [] (Exists.intro [] (Exists.intro [] (Exists.intro [] (And.intro rfl (And.intro rfl (And.intro trivial trivial))))))))
  · obtain ⟨z2, hz2, hF⟩ := bindE hF
    refine Or.inr ⟨Sum.elim (fun z2a => [(0, ⟨[(0, .dat (.int .i64) v), (1, .dat (.int .i64) n)], [], 0⟩)]) (fun z2b => [(1, ⟨[(4, .dat .bool true)], [], 0⟩)]) z2, ?_, ?_⟩
    · have hF := hz2
      clear hz2
      unfold f8_j1 at hF
      refine Or.inl ?_
      refine condN hF (fun hF => ?_) (fun hF => ?_)
      · refine gdYF ?_
        refine condF ?_
        refine condI hF (fun hF => ?_) (fun hF => ?_)
        · refine Or.inl ?_
          have hz := someE hF
          subst hz
          refine Exists.intro [] (Exists.intro [] (Exists.intro [] (Exists.intro [] (Exists.intro [] (And.intro rfl (And.intro rfl (And.intro trivial trivial)))))))
        · have hz := someE hF
          subst hz
          refine Exists.intro [] (Exists.intro [] (Exists.intro [] (Exists.intro [] (Exists.intro [] (And.intro rfl (And.intro rfl (And.intro rfl (And.intro trivial trivial))))))))
      · refine gdNF ?_
        refine condT ?_
        refine condT ?_
        refine Or.inl ?_
        have hz := someE hF
        subst hz
        refine Exists.intro [] (Exists.intro [] (Exists.intro [] (Exists.intro [] (Exists.intro [] (And.intro rfl (And.intro rfl (And.intro trivial trivial)))))))
    · rcases z2 with z2a | z2b
      · dsimp only [sumF] at hF
        refine And.intro ?_ trivial
        refine Or.inl ?_
        refine Or.inl ?_
        obtain ⟨r3, hr3, hF⟩ := bindE hF
        refine Or.inl (And.intro f21_in (callV0 (callI C21 ([n], v) r3 [] true C21_holds hr3 rfl rfl ?_)))
        refine (And.intro rfl (And.intro rfl (And.intro (fun _ => rfl) (And.intro rfl (And.intro rfl (And.intro trivial (And.intro trivial ?_)))))))
        refine Or.inl ?_
        refine Or.inl ?_
        obtain ⟨r4, hr4, hF⟩ := bindE hF
        refine Or.inl (And.intro f25_in (callV0 (callI C25 (r3.1, r3.2) r4 [] true C25_holds hr4 rfl rfl ?_)))
        refine (And.intro rfl (And.intro rfl (And.intro (fun _ => rfl) (And.intro rfl (And.intro rfl (And.intro trivial (And.intro trivial ?_)))))))
        refine Or.inl ?_
        refine Or.inl ?_
        obtain ⟨r5, hr5, hF⟩ := bindE hF
        refine Or.inl (And.intro f21_in (callV0 (callI C21 ([(1 : Int)], v) r5 [] true C21_holds hr5 rfl rfl ?_)))
        refine (And.intro rfl (And.intro rfl (And.intro (fun _ => rfl) (And.intro rfl (And.intro rfl (And.intro trivial (And.intro trivial ?_)))))))
        obtain ⟨r6, hr6, hF⟩ := bindE hF
        refine Or.inl (And.intro f24_in (callV0 (callI C24 (r5.1, r5.2) r6 [] true C24_holds hr6 rfl rfl ?_)))
        refine (And.intro rfl (And.intro rfl (And.intro (fun _ => rfl) (And.intro rfl (And.intro rfl (And.intro trivial (And.intro trivial ?_)))))))
        refine Or.inl ?_
        refine Or.inl ?_
        obtain ⟨r7, hr7, hF⟩ := bindE hF
        refine Or.inl (And.intro f21_in (callV0 (callI C21 ([(1 : Int), n], v) r7 [] true C21_holds hr7 rfl rfl ?_)))
        refine (And.intro rfl (And.intro rfl (And.intro (fun _ => rfl) (And.intro rfl (And.intro rfl (And.intro trivial (And.intro trivial ?_)))))))
        obtain ⟨r8, hr8, hF⟩ := bindE hF
        refine Or.inl (And.intro f23_in (callV0 (callI C23 ((r7.1, r7.2), (0 : Int)) r8 [] true C23_holds hr8 rfl rfl ?_)))
        refine (And.intro rfl (And.intro rfl (And.intro rfl (And.intro (fun _ => rfl) (And.intro rfl (And.intro rfl (And.intro trivial (And.intro trivial ?_))))))))
        refine Or.inl ?_
        refine Or.inl ?_
        refine condI hF (fun hF => ?_) (fun hF => ?_)
        · refine gdYT ?_
          refine gdYT ?_
          refine condT ?_
          refine condI hF (fun hF => ?_) (fun hF => ?_)
          · refine gdYT ?_
            refine condT ?_
            refine condI hF (fun hF => ?_) (fun hF => ?_)
            · refine gdYT ?_
              refine gdYT ?_
              refine condT ?_
              refine condI hF (fun hF => ?_) (fun hF => ?_)
              · refine gdYT ?_
                refine condT ?_
                refine condI hF (fun hF => ?_) (fun hF => ?_)
                · refine gdYT ?_
                  refine gdYT ?_
                  obtain ⟨r9, hr9, hF⟩ := bindE hF
                  refine Or.inl (And.intro f19_in (callV0 (callI C19 ((r8.2.1, r8.2.2), (r3.1, r3.2)) r9 [] true C19_holds hr9 rfl rfl ?_)))
                  refine (And.intro rfl (And.intro rfl (And.intro rfl (And.intro rfl (And.intro (fun _ => rfl) (And.intro rfl (And.intro rfl (And.intro trivial (And.intro trivial ?_)))))))))
                  refine condT ?_
                  have hy := someE hF
                  subst hy
                  refine And.intro rfl (Exists.intro [] (Exists.intro [] (Exists.intro [] (Exists.intro [] (Exists.intro [] (And.intro rfl (And.intro rfl (And.intro trivial trivial))))))))
                · refine gdNT ?_
                  refine gdNT ?_
                  refine condF ?_
                  have hy := someE hF
                  subst hy
                  refine And.intro rfl (Exists.intro [] (Exists.intro [] (Exists.intro [] (Exists.intro [] (Exists.intro [] (And.intro rfl (And.intro rfl (And.intro trivial trivial))))))))
              · refine gdNT ?_
                refine condF ?_
                refine gdNT ?_
                refine gdNT ?_
                refine gdNT ?_
                refine condF ?_
                have hy := someE hF
                subst hy
                refine And.intro rfl (Exists.intro [] (Exists.intro [] (Exists.intro [] (Exists.intro [] (Exists.intro [] (And.intro rfl (And.intro rfl (And.intro trivial trivial))))))))
            · refine gdNT ?_
              refine gdNT ?_
              refine condF ?_
              refine gdNT ?_
              refine gdNT ?_
              refine condF ?_
              refine gdNT ?_
              refine gdNT ?_
              refine gdNT ?_
              refine condF ?_
              have hy := someE hF
              subst hy
              refine And.intro rfl (Exists.intro [] (Exists.intro [] (Exists.intro [] (Exists.intro [] (Exists.intro [] (And.intro rfl (And.intro rfl (And.intro trivial trivial))))))))
          · refine gdNT ?_
            refine condF ?_
            refine gdNT ?_
            refine gdNT ?_
            refine gdNT ?_
            refine condF ?_
            refine gdNT ?_
            refine gdNT ?_
            refine condF ?_
            refine gdNT ?_
            refine gdNT ?_
            refine gdNT ?_
            refine condF ?_
            have hy := someE hF
            subst hy
            refine And.intro rfl (Exists.intro [] (Exists.intro [] (Exists.intro [] (Exists.intro [] (Exists.intro [] (And.intro rfl (And.intro rfl (And.intro trivial trivial))))))))
        · refine gdNT ?_
          refine gdNT ?_
          refine condF ?_
          refine gdNT ?_
          refine gdNT ?_
          refine condF ?_
          refine gdNT ?_
          refine gdNT ?_
          refine gdNT ?_
          refine condF ?_
          refine gdNT ?_
          refine gdNT ?_
          refine condF ?_
          refine gdNT ?_
          refine gdNT ?_
          refine gdNT ?_
          refine condF ?_
          have hy := someE hF
          subst hy
          refine And.intro rfl (Exists.intro [] (Exists.intro [] (Exists.intro [] (Exists.intro [] (Exists.intro [] (And.intro rfl (And.intro rfl (And.intro trivial trivial))))))))
      · dsimp only [sumF] at hF
        refine And.intro ?_ trivial
        have hy := someE hF
        subst hy
        refine And.intro rfl (Exists.intro [] (Exists.intro [] (Exists.intro [] (Exists.intro [] (Exists.intro [] (And.intro rfl (And.intro rfl (And.intro trivial trivial))))))))
theorem C8_holds : C8.Holds Try.prog 8 := holds_of_vc tab_ok mixed (fn := Try.f8) (by kernel_rfl) rfl C8 (fun x y hF => C8_vc x.1 x.2 y hF)
theorem f8_in : ∃ fn, Try.prog.funcs[8]? = some fn ∧ fn.body.isSome = true ∧ (fn.name == "runtime.NumGoroutine") = false := ⟨Try.f8, by kernel_rfl, by kernel_rfl, by kernel_rfl⟩
end Go.Proofs
