import Derived.Test.YtmkekohdmdjdlaaTapeOpsF3
set_option linter.unusedVariables false
set_option maxRecDepth 100000
set_option maxHeartbeats 8000000
namespace Go.Proofs
open Go.AM
-- carousel/tens.Scale
def f35_l1 (k : Int) (r1 : (List Int) × (List Int)) (go : (Int × (List Int)) → Option (List Int)) (v18 : Int) (l2 : List Int) : Option (List Int) :=
  bif (decide (v18 < (List.length r1.2 : Int))) then
    guardF (0 ≤ v18 ∧ v18 < (List.length l2 : Int)) <|
    bindF (f65 (rd (0 : Int) l2 v18) k) fun q7_5 =>
    guardF (0 ≤ v18 ∧ v18 < (List.length l2 : Int)) <|
    go ((IntKind.i64.wrap (v18 + (1 : Int))), (List.set l2 (Int.toNat v18) q7_5))
  else
    some l2
def f35 (a : (List Int) × (List Int)) (k : Int) : Option (Int × (List Int) × (List Int)) :=
  bindF (f42 (a.1, a.2)) fun q7_7 =>
  bif (!q7_7) then
    some ((1 : Int), [], [])
  else
    bindF (f57 (a.1, a.2)) fun r1 =>
    bindF (loopF (fun go x => f35_l1 k r1 go x.1 x.2) fuelN ((0 : Int), r1.2)) fun z2 =>
    some ((0 : Int), r1.1, z2)
def C35 : Con where
  X := ((List Int) × (List Int)) × Int
  Y := Int × (List Int) × (List Int)
  e := 0
  args x := [.dat (.p (.sl (.int .i64)) (.sl (.int .i64))) x.1, .dat (.int .i64) x.2]
  hin x := []
  F x := f35 x.1 x.2
  ret y := [.raw true [(.osl 0), (.osl 1)], .dat (.int .i64) y.1]
  hout y := [(0, .arr 3 (.int .i64) y.2.1), (1, .arr 24 (.int .i64) y.2.2)]
  nout := 2
theorem C35_vc (a : (List Int) × (List Int)) (k : Int) (y : Int × (List Int) × (List Int)) (hF : f35 a k = some y) : vc Try.prog tab Try.f35.ntmps 0 (match Try.f35.body with | some c => c | none => .skip) (retK tab C35 Try.f35.results.toList y) (C35.shIn (a, k)).st := by
  unfold f35 at hF
  refine Or.inl ?_
  refine Or.inl ?_
  refine Or.inl ?_
  obtain ⟨q7_7, hq7_7, hF⟩ := bindE hF
  refine Or.inl (And.intro f42_in (callV0 (callI C42 (a.1, a.2) q7_7 [] false C42_holds hq7_7 rfl rfl ?_)))
  refine (And.intro rfl (And.intro rfl (And.intro (fun h => nomatch h) (And.intro rfl (And.intro rfl (And.intro trivial (And.intro trivial ?_)))))))
  refine condI hF (fun hF => ?_) (fun hF => ?_)
  · refine Or.inl ?_
    refine Or.inl ?_
    have hy := someE hF
    subst hy
    refine And.intro rfl (Exists.intro [] (Exists.intro [] (Exists.intro [] (Exists.intro [] (Exists.intro [(0, none), (1, none)] (And.intro rfl (And.intro rfl (And.intro (And.intro rfl trivial) (And.intro rfl (And.intro rfl trivial))))))))))
  · refine Or.inl ?_
    obtain ⟨r1, hr1, hF⟩ := bindE hF
    refine Or.inl (And.intro f57_in (callV0 (callI C57 (a.1, a.2) r1 [] false C57_holds hr1 rfl rfl ?_)))
    refine (And.intro rfl (And.intro rfl (And.intro (fun h => nomatch h) (And.intro rfl (And.intro rfl (And.intro trivial (And.intro trivial ?_)))))))
    refine Or.inl ?_
    refine Or.inl ?_
    refine Or.inl ?_
    obtain ⟨z2, hz2, hF⟩ := bindE hF
    refine loopI (Int × (List Int)) (List Int) (fun x => ⟨[(1, .dat (.int .i64) k), (4, .raw false [(.ptr 0 0)]), (6, .raw false [(.ptr 1 0)]), (16, .raw false [(.osl 2)]), (17, .dat (.int .i64) (List.length r1.2 : Int)), (18, .dat (.int .i64) x.1)], [(0, .cells [(.c (.slice none 0 0)), (.c (.slice none 0 0))]), (1, .cells [(.osl 3), (.osl 2)]), (2, .arr 24 (.int .i64) x.2), (3, .arr 3 (.int .i64) r1.1)], 4⟩) (fun z => [(2, ⟨[(4, .raw false [(.ptr 0 0)]), (6, .raw false [(.ptr 1 0)])], [(0, .cells [(.c (.slice none 0 0)), (.c (.slice none 0 0))]), (1, .cells [(.osl 2), (.osl 3)]), (2, .arr 3 (.int .i64) r1.1), (3, .arr 24 (.int .i64) z)], 4⟩)]) (loopF (fun go x => f35_l1 k r1 go x.1 x.2)) fuelN ((0 : Int), r1.2) z2 (And.intro hz2 (And.intro (Exists.intro [] (Exists.intro [] (Exists.intro [] (Exists.intro [] (Exists.intro [(0, some 1), (1, some 4), (2, some 3), (3, some 2)] (And.intro rfl (And.intro rfl (And.intro rfl (And.intro rfl (And.intro (And.intro rfl (And.intro rfl (And.intro rfl trivial))) (And.intro rfl (And.intro rfl (And.intro rfl (And.intro rfl trivial)))))))))))))) (And.intro (fun _ _ h => loopZ h) (And.intro (fun m => curI (fun v18 => fun l2 z hF => ?_)) ?_))))
    · have hF : f35_l1 k r1 (loopF (fun go x => f35_l1 k r1 go x.1 x.2) m) v18 l2 = some z := hF
      unfold f35_l1 at hF
      refine Or.inl ?_
      refine Or.inl ?_
      refine condI hF (fun hF => ?_) (fun hF => ?_)
      · refine Or.inl ?_
        refine Or.inl ?_
        refine guardI hF (fun hF => ?_)
        refine Exists.intro (.take 0 (.take 1 (.take 2 (.take 3 (.take 4 (.alt 5 (.take 6 (.alt 7 .done .done)) .done)))))) (Exists.intro [] (Exists.intro [] (And.intro rfl ?_)))
        refine And.intro trivial ?_
        obtain ⟨q7_5, hq7_5, hF⟩ := bindE hF
        refine Or.inl (And.intro f65_in (callV0 (callI C65 ((rd (0 : Int) l2 v18), k) q7_5 [] false C65_holds hq7_5 rfl rfl ?_)))
        refine (And.intro rfl (And.intro rfl (And.intro (fun h => nomatch h) (And.intro rfl (And.intro rfl (And.intro trivial (And.intro trivial ?_)))))))
        refine guardI hF (fun hF => ?_)
        refine And.intro trivial ?_
        refine Or.inl ?_
        refine Exists.intro ((IntKind.i64.wrap (v18 + (1 : Int))), (List.set l2 (Int.toNat v18) q7_5)) (And.intro hF (Exists.intro [] (Exists.intro [] (Exists.intro [] (Exists.intro [] (Exists.intro [(0, some 0), (1, some 1), (2, some 2), (3, some 3)] (And.intro rfl (And.intro rfl (And.intro rfl (And.intro rfl (And.intro (And.intro rfl (And.intro rfl (And.intro rfl trivial))) (And.intro rfl (And.intro rfl (And.intro rfl (And.intro rfl trivial)))))))))))))))
      · have hz := someE hF
        subst hz
        refine Exists.intro [] (Exists.intro [] (Exists.intro [] (Exists.intro [] (Exists.intro [(0, some 0), (1, some 1), (2, some 3), (3, some 2)] (And.intro rfl (And.intro (And.intro rfl (And.intro rfl trivial)) (And.intro rfl (And.intro rfl (And.intro rfl (And.intro rfl trivial))))))))))
    · refine And.intro ?_ trivial
      refine Or.inl ?_
      refine Or.inl ?_
      have hy := someE hF
      subst hy
      refine And.intro rfl (Exists.intro [] (Exists.intro [] (Exists.intro [] (Exists.intro [] (Exists.intro [(0, some 2), (1, some 3)] (And.intro rfl (And.intro rfl (And.intro (And.intro rfl trivial) (And.intro rfl (And.intro rfl trivial))))))))))
theorem C35_holds : C35.Holds Try.prog 35 := holds_of_vc tab_ok mixed (fn := Try.f35) (by kernel_rfl) rfl C35 (fun x y hF => C35_vc x.1 x.2 y hF)
theorem f35_in : ∃ fn, Try.prog.funcs[35]? = some fn ∧ fn.body.isSome = true ∧ (fn.name == "runtime.NumGoroutine") = false := ⟨Try.f35, by kernel_rfl, by kernel_rfl, by kernel_rfl⟩
end Go.Proofs
namespace Go.Proofs
open Go.AM
-- carousel/tape.single
def f91 (x_ : Int) (e : Int) : Option (Int × (List Int) × (List Int)) :=
  bif (e != (0 : Int)) then
    some (e, [], [])
  else
    bindF (f44 ([]) x_) fun r1 =>
    some (r1.1, r1.2.1, r1.2.2)
def C91 : Con where
  X := Int × Int
  Y := Int × (List Int) × (List Int)
  e := 0
  args x := [.dat (.int .i64) x.1, .dat (.int .i64) x.2]
  hin x := []
  F x := f91 x.1 x.2
  ret y := [.raw true [(.osl 0), (.osl 1)], .dat (.int .i64) y.1]
  hout y := [(0, .arr 3 (.int .i64) y.2.1), (1, .arr 24 (.int .i64) y.2.2)]
  nout := 2
theorem C91_vc (x_ : Int) (e : Int) (y : Int × (List Int) × (List Int)) (hF : f91 x_ e = some y) : vc Try.prog tab Try.f91.ntmps 0 (match Try.f91.body with | some c => c | none => .skip) (retK tab C91 Try.f91.results.toList y) (C91.shIn (x_, e)).st := by
  unfold f91 at hF
  refine Or.inl ?_
  refine Or.inl ?_
  refine Or.inl ?_
  refine condI hF (fun hF => ?_) (fun hF => ?_)
  · refine Or.inl ?_
    refine Or.inl ?_
    have hy := someE hF
    subst hy
    refine And.intro rfl (Exists.intro [] (Exists.intro [] (Exists.intro [] (Exists.intro [] (Exists.intro [(0, none), (1, none)] (And.intro rfl (And.intro rfl (And.intro (And.intro rfl trivial) (And.intro rfl (And.intro rfl trivial))))))))))
  · refine Or.inl ?_
    obtain ⟨r1, hr1, hF⟩ := bindE hF
    refine Or.inl (And.intro f44_in (callV0 (callI C44 ([], x_) r1 [] false C44_holds hr1 rfl rfl ?_)))
    refine (And.intro rfl (And.intro rfl (And.intro (fun h => nomatch h) (And.intro rfl (And.intro rfl (And.intro trivial (And.intro trivial ?_)))))))
    refine Or.inl ?_
    have hy := someE hF
    subst hy
    refine And.intro rfl (Exists.intro [] (Exists.intro [] (Exists.intro [] (Exists.intro [] (Exists.intro [(0, some 1), (1, some 2)] (And.intro rfl (And.intro rfl (And.intro (And.intro rfl trivial) (And.intro rfl (And.intro rfl trivial))))))))))
theorem C91_holds : C91.Holds Try.prog 91 := holds_of_vc tab_ok mixed (fn := Try.f91) (by kernel_rfl) rfl C91 (fun x y hF => C91_vc x.1 x.2 y hF)
theorem f91_in : ∃ fn, Try.prog.funcs[91]? = some fn ∧ fn.body.isSome = true ∧ (fn.name == "runtime.NumGoroutine") = false := ⟨Try.f91, by kernel_rfl, by kernel_rfl, by kernel_rfl⟩
end Go.Proofs
namespace Go.Proofs
open Go.AM
-- carousel/act.good
def f109 (kind : Int) : Option Bool :=
  bif (decide (kind ≥ (1 : Int))) then
    some (decide (kind ≤ (5 : Int)))
  else
    some false
def C109 : Con where
  X := Int
  Y := Bool
  e := 0
  args x := [.dat (.int .i64) x]
  hin x := []
  F x := f109 x
  ret y := [.dat .bool y]
  hout y := []
  nout := 0
theorem C109_vc (kind : Int) (y : Bool) (hF : f109 kind = some y) : vc Try.prog tab Try.f109.ntmps 0 (match Try.f109.body with | some c => c | none => .skip) (retK tab C109 Try.f109.results.toList y) (C109.shIn kind).st := by
  unfold f109 at hF
  refine Or.inl ?_
  refine Or.inl ?_
  refine condI hF (fun hF => ?_) (fun hF => ?_)
  · refine gdYT ?_
    refine condT ?_
    have hy := someE hF
    subst hy
    refine And.intro rfl (Exists.intro [] (Exists.intro [] (Exists.intro [] (Exists.intro [] (Exists.intro [] (And.intro rfl (And.intro rfl (And.intro trivial trivial))))))))
  · refine gdNT ?_
    refine condF ?_
    have hy := someE hF
    subst hy
    refine And.intro rfl (Exists.intro [] (Exists.intro [] (Exists.intro [] (Exists.intro [] (Exists.intro [] (And.intro rfl (And.intro rfl (And.intro trivial trivial))))))))
theorem C109_holds : C109.Holds Try.prog 109 := holds_of_vc tab_ok mixed (fn := Try.f109) (by kernel_rfl) rfl C109 (fun x y hF => C109_vc x y hF)
theorem f109_in : ∃ fn, Try.prog.funcs[109]? = some fn ∧ fn.body.isSome = true ∧ (fn.name == "runtime.NumGoroutine") = false := ⟨Try.f109, by kernel_rfl, by kernel_rfl, by kernel_rfl⟩
end Go.Proofs
namespace Go.Proofs
open Go.AM
-- carousel/fix.Of
def f116 (n : Int) : Option Int :=
  bif (decide (n ≥ (2147483648 : Int))) then
    some (9223372036854775807 : Int)
  else
    bif (decide (n < (-2147483648 : Int))) then
      some (-9223372036854775808 : Int)
    else
      some (IntKind.i64.wrap (n * 2 ^ min (Int.toNat (32 : Int)) (IntKind.bits IntKind.i64)))
def C116 : Con where
  X := Int
  Y := Int
  e := 0
  args x := [.dat (.int .i64) x]
  hin x := []
  F x := f116 x
  ret y := [.dat (.int .i64) y]
  hout y := []
  nout := 0
theorem C116_vc (n : Int) (y : Int) (hF : f116 n = some y) : vc Try.prog tab Try.f116.ntmps 0 (match Try.f116.body with | some c => c | none => .skip) (retK tab C116 Try.f116.results.toList y) (C116.shIn n).st := by
  unfold f116 at hF
  refine Or.inl ?_
  refine Or.inl ?_
  refine Or.inl ?_
  refine condI hF (fun hF => ?_) (fun hF => ?_)
  · refine Or.inl ?_
    have hy := someE hF
    subst hy
    refine And.intro rfl (Exists.intro [] (Exists.intro [] (Exists.intro [] (Exists.intro [] (Exists.intro [] (And.intro rfl (And.intro rfl (And.intro trivial trivial))))))))
  · refine Or.inl ?_
    refine condI hF (fun hF => ?_) (fun hF => ?_)
    · refine Or.inl ?_
      have hy := someE hF
      subst hy
      refine And.intro rfl (Exists.intro [] (Exists.intro [] (Exists.intro [] (Exists.intro [] (Exists.intro [] (And.intro rfl (And.intro rfl (And.intro trivial trivial))))))))
    · refine Or.inl ?_
      refine And.intro (by decide) ?_
      have hy := someE hF
      subst hy
      refine And.intro rfl (Exists.intro [] (Exists.intro [] (Exists.intro [] (Exists.intro [] (Exists.intro [] (And.intro rfl (And.intro rfl (And.intro trivial trivial))))))))
theorem C116_holds : C116.Holds Try.prog 116 := holds_of_vc tab_ok mixed (fn := Try.f116) (by kernel_rfl) rfl C116 (fun x y hF => C116_vc x y hF)
theorem f116_in : ∃ fn, Try.prog.funcs[116]? = some fn ∧ fn.body.isSome = true ∧ (fn.name == "runtime.NumGoroutine") = false := ⟨Try.f116, by kernel_rfl, by kernel_rfl, by kernel_rfl⟩
end Go.Proofs
namespace Go.Proofs
open Go.AM
-- carousel/act.within
def f117 (x_ : Int) (lo : Int) (hi : Int) : Option Int :=
  some (if hi < (if lo > x_ then lo else x_) then hi else (if lo > x_ then lo else x_))
def C117 : Con where
  X := Int × Int × Int
  Y := Int
  e := 0
  args x := [.dat (.int .i64) x.1, .dat (.int .i64) x.2.1, .dat (.int .i64) x.2.2]
  hin x := []
  F x := f117 x.1 x.2.1 x.2.2
  ret y := [.dat (.int .i64) y]
  hout y := []
  nout := 0
theorem C117_vc (x_ : Int) (lo : Int) (hi : Int) (y : Int) (hF : f117 x_ lo hi = some y) : vc Try.prog tab Try.f117.ntmps 0 (match Try.f117.body with | some c => c | none => .skip) (retK tab C117 Try.f117.results.toList y) (C117.shIn (x_, lo, hi)).st := by
  unfold f117 at hF
  refine Or.inl ?_
  refine Or.inl ?_
  have hy := someE hF
  subst hy
  refine And.intro rfl (Exists.intro [] (Exists.intro [] (Exists.intro [] (Exists.intro [] (Exists.intro [] (And.intro rfl (And.intro rfl (And.intro trivial trivial))))))))
theorem C117_holds : C117.Holds Try.prog 117 := holds_of_vc tab_ok mixed (fn := Try.f117) (by kernel_rfl) rfl C117 (fun x y hF => C117_vc x.1 x.2.1 x.2.2 y hF)
theorem f117_in : ∃ fn, Try.prog.funcs[117]? = some fn ∧ fn.body.isSome = true ∧ (fn.name == "runtime.NumGoroutine") = false := ⟨Try.f117, by kernel_rfl, by kernel_rfl, by kernel_rfl⟩
end Go.Proofs
namespace Go.Proofs
open Go.AM
-- carousel/fix.Neg
def f118 (a : Int) : Option Int :=
  bif (a == (-9223372036854775808 : Int)) then
    some (9223372036854775807 : Int)
  else
    some (IntKind.i64.wrap (0 - a))
def C118 : Con where
  X := Int
  Y := Int
  e := 0
  args x := [.dat (.int .i64) x]
  hin x := []
  F x := f118 x
  ret y := [.dat (.int .i64) y]
  hout y := []
  nout := 0
theorem C118_vc (a : Int) (y : Int) (hF : f118 a = some y) : vc Try.prog tab Try.f118.ntmps 0 (match Try.f118.body with | some c => c | none => .skip) (retK tab C118 Try.f118.results.toList y) (C118.shIn a).st := by
  unfold f118 at hF
  refine Or.inl ?_
  refine Or.inl ?_
  refine Or.inl ?_
  refine condI hF (fun hF => ?_) (fun hF => ?_)
  · refine Or.inl ?_
    have hy := someE hF
    subst hy
    refine And.intro rfl (Exists.intro [] (Exists.intro [] (Exists.intro [] (Exists.intro [] (Exists.intro [] (And.intro rfl (And.intro rfl (And.intro trivial trivial))))))))
  · refine Or.inl ?_
    have hy := someE hF
    subst hy
    refine And.intro rfl (Exists.intro [] (Exists.intro [] (Exists.intro [] (Exists.intro [] (Exists.intro [] (And.intro rfl (And.intro rfl (And.intro trivial trivial))))))))
theorem C118_holds : C118.Holds Try.prog 118 := holds_of_vc tab_ok mixed (fn := Try.f118) (by kernel_rfl) rfl C118 (fun x y hF => C118_vc x y hF)
theorem f118_in : ∃ fn, Try.prog.funcs[118]? = some fn ∧ fn.body.isSome = true ∧ (fn.name == "runtime.NumGoroutine") = false := ⟨Try.f118, by kernel_rfl, by kernel_rfl, by kernel_rfl⟩
end Go.Proofs
namespace Go.Proofs
open Go.AM
-- carousel/act.Of
def f110 (kind : Int) (x_ : Int) : Option (Int × Int) :=
  bif (kind == (1 : Int)) then
    some ((if (0 : Int) > x_ then (0 : Int) else x_), (0 : Int))
  else
    bif (kind == (2 : Int)) then
      bif (decide (x_ > (0 : Int))) then
        some (x_, (0 : Int))
      else
        bindF (f116 (8 : Int)) fun r1 =>
        bindF (f81 x_ r1) fun r2 =>
        some (r2, (0 : Int))
    else
      bif (kind == (3 : Int)) then
        bindF (f117 x_ (-4294967296 : Int) (4294967296 : Int)) fun r3 =>
        some (r3, (0 : Int))
      else
        bif (kind == (4 : Int)) then
          bif (decide (x_ < (0 : Int))) then
            bindF (f118 x_) fun r4 =>
            some (r4, (0 : Int))
          else
            some (x_, (0 : Int))
        else
          bif (kind == (5 : Int)) then
            bindF (f116 (2 : Int)) fun r5 =>
            bindF (f81 x_ r5) fun r6 =>
            bindF (f64 r6 (2147483648 : Int)) fun r7 =>
            bindF (f117 r7 (0 : Int) (4294967296 : Int)) fun r8 =>
            some (r8, (0 : Int))
          else
            some ((0 : Int), (1 : Int))
def C110 : Con where
  X := Int × Int
  Y := Int × Int
  e := 0
  args x := [.dat (.int .i64) x.1, .dat (.int .i64) x.2]
  hin x := []
  F x := f110 x.1 x.2
  ret y := [.dat (.int .i64) y.1, .dat (.int .i64) y.2]
  hout y := []
  nout := 0
theorem C110_vc (kind : Int) (x_ : Int) (y : Int × Int) (hF : f110 kind x_ = some y) : vc Try.prog tab Try.f110.ntmps 0 (match Try.f110.body with | some c => c | none => .skip) (retK tab C110 Try.f110.results.toList y) (C110.shIn (kind, x_)).st := by
  unfold f110 at hF
  refine Or.inl ?_
  refine Or.inl ?_
  refine Or.inl ?_
  refine Or.inl ?_
  refine condI hF (fun hF => ?_) (fun hF => ?_)
  · refine Or.inl ?_
    have hy := someE hF
    subst hy
    refine And.intro rfl (Exists.intro [] (Exists.intro [] (Exists.intro [] (Exists.intro [] (Exists.intro [] (And.intro rfl (And.intro rfl (And.intro rfl (And.intro trivial trivial)))))))))
  · refine Or.inl ?_
    refine condI hF (fun hF => ?_) (fun hF => ?_)
    · refine Or.inl ?_
      refine Or.inl ?_
      refine condI hF (fun hF => ?_) (fun hF => ?_)
      · refine Or.inl ?_
        have hy := someE hF
        subst hy
        refine And.intro rfl (Exists.intro [] (Exists.intro [] (Exists.intro [] (Exists.intro [] (Exists.intro [] (And.intro rfl (And.intro rfl (And.intro rfl (And.intro trivial trivial)))))))))
      · refine Or.inl ?_
        obtain ⟨r1, hr1, hF⟩ := bindE hF
        refine Or.inl (And.intro f116_in (callV0 (callI C116 (8 : Int) r1 [] false C116_holds hr1 rfl rfl ?_)))
        refine (And.intro rfl (And.intro (fun h => nomatch h) (And.intro rfl (And.intro rfl (And.intro trivial (And.intro trivial ?_))))))
        obtain ⟨r2, hr2, hF⟩ := bindE hF
        refine Or.inl (And.intro f81_in (callV0 (callI C81 (x_, r1) r2 [] false C81_holds hr2 rfl rfl ?_)))
        refine (And.intro rfl (And.intro rfl (And.intro (fun h => nomatch h) (And.intro rfl (And.intro rfl (And.intro trivial (And.intro trivial ?_)))))))
        have hy := someE hF
        subst hy
        refine And.intro rfl (Exists.intro [] (Exists.intro [] (Exists.intro [] (Exists.intro [] (Exists.intro [] (And.intro rfl (And.intro rfl (And.intro rfl (And.intro trivial trivial)))))))))
    · refine Or.inl ?_
      refine condI hF (fun hF => ?_) (fun hF => ?_)
      · refine Or.inl ?_
        obtain ⟨r3, hr3, hF⟩ := bindE hF
        have hr3 : C117.F (x_, (-4294967296 : Int), (4294967296 : Int)) = some r3 := hr3
        refine Or.inl (And.intro f117_in (callV0 (callI C117 _ r3 [] false C117_holds hr3 rfl rfl ?_)))
        refine (And.intro rfl (And.intro rfl (And.intro rfl (And.intro (fun h => nomatch h) (And.intro rfl (And.intro rfl (And.intro trivial (And.intro trivial ?_))))))))
        have hy := someE hF
        subst hy
        refine And.intro rfl (Exists.intro [] (Exists.intro [] (Exists.intro [] (Exists.intro [] (Exists.intro [] (And.intro rfl (And.intro rfl (And.intro rfl (And.intro trivial trivial)))))))))
      · refine Or.inl ?_
        refine condI hF (fun hF => ?_) (fun hF => ?_)
        · refine Or.inl ?_
          refine Or.inl ?_
          refine condI hF (fun hF => ?_) (fun hF => ?_)
          · refine Or.inl ?_
            obtain ⟨r4, hr4, hF⟩ := bindE hF
            refine Or.inl (And.intro f118_in (callV0 (callI C118 x_ r4 [] false C118_holds hr4 rfl rfl ?_)))
            refine (And.intro rfl (And.intro (fun h => nomatch h) (And.intro rfl (And.intro rfl (And.intro trivial (And.intro trivial ?_))))))
            have hy := someE hF
            subst hy
            refine And.intro rfl (Exists.intro [] (Exists.intro [] (Exists.intro [] (Exists.intro [] (Exists.intro [] (And.intro rfl (And.intro rfl (And.intro rfl (And.intro trivial trivial)))))))))
          · refine Or.inl ?_
            have hy := someE hF
            subst hy
            refine And.intro rfl (Exists.intro [] (Exists.intro [] (Exists.intro [] (Exists.intro [] (Exists.intro [] (And.intro rfl (And.intro rfl (And.intro rfl (And.intro trivial trivial)))))))))
        · refine Or.inl ?_
          refine condI hF (fun hF => ?_) (fun hF => ?_)
          · refine Or.inl ?_
            obtain ⟨r5, hr5, hF⟩ := bindE hF
            refine Or.inl (And.intro f116_in (callV0 (callI C116 (2 : Int) r5 [] false C116_holds hr5 rfl rfl ?_)))
            refine (And.intro rfl (And.intro (fun h => nomatch h) (And.intro rfl (And.intro rfl (And.intro trivial (And.intro trivial ?_))))))
            obtain ⟨r6, hr6, hF⟩ := bindE hF
            refine Or.inl (And.intro f81_in (callV0 (callI C81 (x_, r5) r6 [] false C81_holds hr6 rfl rfl ?_)))
            refine (And.intro rfl (And.intro rfl (And.intro (fun h => nomatch h) (And.intro rfl (And.intro rfl (And.intro trivial (And.intro trivial ?_)))))))
            obtain ⟨r7, hr7, hF⟩ := bindE hF
            refine Or.inl (And.intro f64_in (callV0 (callI C64 (r6, (2147483648 : Int)) r7 [] false C64_holds hr7 rfl rfl ?_)))
            refine (And.intro rfl (And.intro rfl (And.intro (fun h => nomatch h) (And.intro rfl (And.intro rfl (And.intro trivial (And.intro trivial ?_)))))))
            obtain ⟨r8, hr8, hF⟩ := bindE hF
            refine Or.inl (And.intro f117_in (callV0 (callI C117 (r7, (0 : Int), (4294967296 : Int)) r8 [] false C117_holds hr8 rfl rfl ?_)))
            refine (And.intro rfl (And.intro rfl (And.intro rfl (And.intro (fun h => nomatch h) (And.intro rfl (And.intro rfl (And.intro trivial (And.intro trivial ?_))))))))
            have hy := someE hF
            subst hy
            refine And.intro rfl (Exists.intro [] (Exists.intro [] (Exists.intro [] (Exists.intro [] (Exists.intro [] (And.intro rfl (And.intro rfl (And.intro rfl (And.intro trivial trivial)))))))))
          · refine Or.inl ?_
            have hy := someE hF
            subst hy
            refine And.intro rfl (Exists.intro [] (Exists.intro [] (Exists.intro [] (Exists.intro [] (Exists.intro [] (And.intro rfl (And.intro rfl (And.intro rfl (And.intro trivial trivial)))))))))
theorem C110_holds : C110.Holds Try.prog 110 := holds_of_vc tab_ok mixed (fn := Try.f110) (by kernel_rfl) rfl C110 (fun x y hF => C110_vc x.1 x.2 y hF)
theorem f110_in : ∃ fn, Try.prog.funcs[110]? = some fn ∧ fn.body.isSome = true ∧ (fn.name == "runtime.NumGoroutine") = false := ⟨Try.f110, by kernel_rfl, by kernel_rfl, by kernel_rfl⟩
end Go.Proofs
namespace Go.Proofs
open Go.AM
-- carousel/act.All
def f92_j3 (kind : Int) (t : (List Int) × (List Int)) : Option Bool :=
  bindF (f109 kind) fun r9 =>
  bif (!r9) then
    some true
  else
    bindF (f42 (t.1, t.2)) fun r10 =>
    some (!r10)
def f92_j2 (kind : Int) (t : (List Int) × (List Int)) : Option (Sum Unit Unit) :=
  bindF (f92_j3 kind t) fun z8 =>
  bif z8 then
    some (Sum.inr ())
  else
    some (Sum.inl ())
def f92_l4 (kind : Int) (t : (List Int) × (List Int)) (go : (Int × (List Int)) → Option (List Int)) (v23 : Int) (l3 : List Int) : Option (List Int) :=
  bif (decide (v23 < (List.length t.2 : Int))) then
    guardF (0 ≤ v23 ∧ v23 < (List.length t.2 : Int)) <|
    bindF (f110 kind (rd (0 : Int) t.2 v23)) fun q7_5 =>
    guardF (0 ≤ v23 ∧ v23 < (List.length l3 : Int)) <|
    go ((IntKind.i64.wrap (v23 + (1 : Int))), (List.set l3 (Int.toNat v23) q7_5.1))
  else
    some l3
def f92 (kind : Int) (t : (List Int) × (List Int)) : Option (Int × (List Int) × (List Int)) :=
  bindF (f92_j2 kind t) fun z5 =>
  sumF z5 (fun z5a =>
    bindF (f57 (t.1, t.2)) fun r11 =>
    bindF (loopF (fun go x => f92_l4 kind t go x.1 x.2) fuelN ((0 : Int), r11.2)) fun z12 =>
    some ((0 : Int), r11.1, z12)) (fun z5b =>
    some ((1 : Int), [], []))
def C92 : Con where
  X := Int × ((List Int) × (List Int))
  Y := Int × (List Int) × (List Int)
  e := 0
  args x := [.dat (.int .i64) x.1, .dat (.p (.sl (.int .i64)) (.sl (.int .i64))) x.2]
  hin x := []
  F x := f92 x.1 x.2
  ret y := [.raw true [(.osl 0), (.osl 1)], .dat (.int .i64) y.1]
  hout y := [(0, .arr 3 (.int .i64) y.2.1), (1, .arr 24 (.int .i64) y.2.2)]
  nout := 2
theorem C92_vc (kind : Int) (t : (List Int) × (List Int)) (y : Int × (List Int) × (List Int)) (hF : f92 kind t = some y) : vc Try.prog tab Try.f92.ntmps 0 (match Try.f92.body with | some c => c | none => .skip) (retK tab C92 Try.f92.results.toList y) (C92.shIn (kind, t)).st := by
  unfold f92 at hF
  refine Or.inl ?_
  obtain ⟨z5, hz5, hF⟩ := bindE hF
  refine Or.inr ⟨Sum.elim (fun z5a => [(0, ⟨[(0, .dat (.int .i64) kind), (3, .raw false [(.ptr 0 0)]), (4, .raw false [(.ptr 1 0)])], [(0, .cells [(.d (.sl (.int .i64)) t.1), (.d (.sl (.int .i64)) t.2)]), (1, .cells [(.c (.slice none 0 0)), (.c (.slice none 0 0))])], 2⟩)]) (fun z5b => [(1, ⟨[(4, .raw false [(.ptr 0 0)]), (5, .dat (.int .i64) (1 : Int))], [(0, .cells [(.c (.slice none 0 0)), (.c (.slice none 0 0))])], 1⟩)]) z5, ?_, ?_⟩
  · have hF := hz5
    clear hz5
    unfold f92_j2 at hF
    obtain ⟨z8, hz8, hF⟩ := bindE hF
    refine Or.inr ⟨[(0, ⟨[(0, .dat (.int .i64) kind), (3, .raw false [(.ptr 0 0)]), (4, .raw false [(.ptr 1 0)]), (16, .dat .bool z8)], [(0, .cells [(.d (.sl (.int .i64)) t.1), (.d (.sl (.int .i64)) t.2)]), (1, .cells [(.c (.slice none 0 0)), (.c (.slice none 0 0))])], 2⟩)], ?_, ?_⟩
    · have hF := hz8
      clear hz8
      unfold f92_j3 at hF
      obtain ⟨r9, hr9, hF⟩ := bindE hF
      refine Or.inl (And.intro f109_in (callV0 (callI C109 kind r9 [] false C109_holds hr9 rfl rfl ?_)))
      refine (And.intro rfl (And.intro (fun h => nomatch h) (And.intro rfl (And.intro rfl (And.intro trivial (And.intro trivial ?_))))))
      refine condN hF (fun hF => ?_) (fun hF => ?_)
      · refine gdYF ?_
        obtain ⟨r10, hr10, hF⟩ := bindE hF
        refine Or.inl (And.intro f42_in (callV0 (callI C42 (t.1, t.2) r10 [] false C42_holds hr10 rfl rfl ?_)))
        refine (And.intro rfl (And.intro rfl (And.intro (fun h => nomatch h) (And.intro rfl (And.intro rfl (And.intro trivial (And.intro trivial ?_)))))))
        refine gdYF ?_
        refine condF ?_
        have hz := someE hF
        subst hz
        refine Exists.intro [] (Exists.intro [] (Exists.intro [] (Exists.intro [] (Exists.intro [(0, some 0), (1, some 1)] (And.intro rfl (And.intro rfl (And.intro rfl (And.intro (And.intro rfl (And.intro rfl trivial)) (And.intro rfl (And.intro rfl trivial))))))))))
      · refine gdNF ?_
        refine gdNF ?_
        refine condT ?_
        have hz := someE hF
        subst hz
        refine Exists.intro [] (Exists.intro [] (Exists.intro [] (Exists.intro [] (Exists.intro [(0, some 0), (1, some 1)] (And.intro rfl (And.intro rfl (And.intro rfl (And.intro (And.intro rfl (And.intro rfl trivial)) (And.intro rfl (And.intro rfl trivial))))))))))
    · refine And.intro ?_ trivial
      refine condI hF (fun hF => ?_) (fun hF => ?_)
      · refine Or.inl ?_
        refine Or.inl ?_
        have hz := someE hF
        subst hz
        refine Exists.intro [] (Exists.intro [] (Exists.intro [] (Exists.intro [] (Exists.intro [(0, some 1)] (And.intro rfl (And.intro rfl (And.intro (And.intro rfl trivial) (And.intro rfl trivial))))))))
      · have hz := someE hF
        subst hz
        refine Exists.intro [] (Exists.intro [] (Exists.intro [] (Exists.intro [] (Exists.intro [(0, some 0), (1, some 1)] (And.intro rfl (And.intro rfl (And.intro (And.intro rfl (And.intro rfl trivial)) (And.intro rfl (And.intro rfl trivial)))))))))
  · rcases z5 with z5a | z5b
    · dsimp only [sumF] at hF
      refine And.intro ?_ trivial
      refine Or.inl ?_
      obtain ⟨r11, hr11, hF⟩ := bindE hF
      refine Or.inl (And.intro f57_in (callV0 (callI C57 (t.1, t.2) r11 [] false C57_holds hr11 rfl rfl ?_)))
      refine (And.intro rfl (And.intro rfl (And.intro (fun h => nomatch h) (And.intro rfl (And.intro rfl (And.intro trivial (And.intro trivial ?_)))))))
      refine Or.inl ?_
      refine Or.inl ?_
      refine Or.inl ?_
      obtain ⟨z12, hz12, hF⟩ := bindE hF
      refine loopI (Int × (List Int)) (List Int) (fun x => ⟨[(0, .dat (.int .i64) kind), (4, .raw false [(.ptr 0 0)]), (6, .raw false [(.ptr 1 0)]), (21, .dat (.sl (.int .i64)) t.2), (22, .dat (.int .i64) (List.length t.2 : Int)), (23, .dat (.int .i64) x.1)], [(0, .cells [(.c (.slice none 0 0)), (.c (.slice none 0 0))]), (1, .cells [(.osl 2), (.osl 3)]), (2, .arr 3 (.int .i64) r11.1), (3, .arr 24 (.int .i64) x.2)], 4⟩) (fun z => [(2, ⟨[(4, .raw false [(.ptr 0 0)]), (6, .raw false [(.ptr 1 0)])], [(0, .cells [(.c (.slice none 0 0)), (.c (.slice none 0 0))]), (1, .cells [(.osl 2), (.osl 3)]), (2, .arr 3 (.int .i64) r11.1), (3, .arr 24 (.int .i64) z)], 4⟩)]) (loopF (fun go x => f92_l4 kind t go x.1 x.2)) fuelN ((0 : Int), r11.2) z12 (And.intro hz12 (And.intro (Exists.intro [] (Exists.intro [] (Exists.intro [] (Exists.intro [] (Exists.intro [(0, some 1), (1, some 4), (2, some 2), (3, some 3)] (And.intro rfl (And.intro rfl (And.intro rfl (And.intro rfl (And.intro rfl (And.intro (And.intro rfl (And.intro rfl trivial)) (And.intro rfl (And.intro rfl (And.intro rfl (And.intro rfl trivial))))))))))))))) (And.intro (fun _ _ h => loopZ h) (And.intro (fun m => curI (fun v23 => fun l3 z hF => ?_)) ?_))))
      · have hF : f92_l4 kind t (loopF (fun go x => f92_l4 kind t go x.1 x.2) m) v23 l3 = some z := hF
        unfold f92_l4 at hF
        refine Or.inl ?_
        refine Or.inl ?_
        refine condI hF (fun hF => ?_) (fun hF => ?_)
        · refine Or.inl ?_
          refine Or.inl ?_
          refine guardI hF (fun hF => ?_)
          refine Exists.intro (.take 0 (.take 1 (.take 2 (.take 3 (.take 4 (.alt 5 (.take 6 (.take 7 (.take 8 (.take 9 (.alt 10 .done .done))))) .done)))))) (Exists.intro [] (Exists.intro [] (And.intro rfl ?_)))
          refine And.intro trivial ?_
          obtain ⟨q7_5, hq7_5, hF⟩ := bindE hF
          refine Or.inl (And.intro f110_in (callV0 (callI C110 (kind, (rd (0 : Int) t.2 v23)) q7_5 [] false C110_holds hq7_5 rfl rfl ?_)))
          refine (And.intro rfl (And.intro rfl (And.intro (fun h => nomatch h) (And.intro rfl (And.intro rfl (And.intro trivial (And.intro trivial ?_)))))))
          refine guardI hF (fun hF => ?_)
          refine And.intro trivial ?_
          refine Or.inl ?_
          refine Exists.intro ((IntKind.i64.wrap (v23 + (1 : Int))), (List.set l3 (Int.toNat v23) q7_5.1)) (And.intro hF (Exists.intro [] (Exists.intro [] (Exists.intro [] (Exists.intro [] (Exists.intro [(0, some 0), (1, some 1), (2, some 2), (3, some 3)] (And.intro rfl (And.intro rfl (And.intro rfl (And.intro rfl (And.intro rfl (And.intro (And.intro rfl (And.intro rfl trivial)) (And.intro rfl (And.intro rfl (And.intro rfl (And.intro rfl trivial))))))))))))))))
        · have hz := someE hF
          subst hz
          refine Exists.intro [] (Exists.intro [] (Exists.intro [] (Exists.intro [] (Exists.intro [(0, some 0), (1, some 1), (2, some 2), (3, some 3)] (And.intro rfl (And.intro (And.intro rfl (And.intro rfl trivial)) (And.intro rfl (And.intro rfl (And.intro rfl (And.intro rfl trivial))))))))))
      · refine And.intro ?_ trivial
        refine Or.inl ?_
        refine Or.inl ?_
        have hy := someE hF
        subst hy
        refine And.intro rfl (Exists.intro [] (Exists.intro [] (Exists.intro [] (Exists.intro [] (Exists.intro [(0, some 2), (1, some 3)] (And.intro rfl (And.intro rfl (And.intro (And.intro rfl trivial) (And.intro rfl (And.intro rfl trivial))))))))))
    · dsimp only [sumF] at hF
      refine And.intro ?_ trivial
      have hy := someE hF
      subst hy
      refine And.intro rfl (Exists.intro [] (Exists.intro [] (Exists.intro [] (Exists.intro [] (Exists.intro [(0, none), (1, none)] (And.intro rfl (And.intro rfl (And.intro (And.intro rfl trivial) (And.intro rfl (And.intro rfl trivial))))))))))
theorem C92_holds : C92.Holds Try.prog 92 := holds_of_vc tab_ok mixed (fn := Try.f92) (by kernel_rfl) rfl C92 (fun x y hF => C92_vc x.1 x.2 y hF)
theorem f92_in : ∃ fn, Try.prog.funcs[92]? = some fn ∧ fn.body.isSome = true ∧ (fn.name == "runtime.NumGoroutine") = false := ⟨Try.f92, by kernel_rfl, by kernel_rfl, by kernel_rfl⟩
end Go.Proofs
namespace Go.Proofs
open Go.AM
-- carousel/conv.Pool
def f93_j3 (a : (List Int) × (List Int)) (wid : Int) : Option Bool :=
  bif (decide (wid < (1 : Int))) then
    some true
  else
    guardF (0 ≤ (1 : Int) ∧ (1 : Int) < (List.length a.1 : Int)) <|
    some (decide (wid > (rd (0 : Int) a.1 (1 : Int))))
def f93_j2 (a : (List Int) × (List Int)) (wid : Int) : Option (Sum Unit Int) :=
  bindF (f42 (a.1, a.2)) fun r4 =>
  bif (!r4) then
    some (Sum.inr (1 : Int))
  else
    bif ((List.length a.1 : Int) != (2 : Int)) then
      some (Sum.inr (4 : Int))
    else
      bindF (f93_j3 a wid) fun z5 =>
      bif z5 then
        some (Sum.inr (1 : Int))
      else
        some (Sum.inl ())
def f93_l7 (a : (List Int) × (List Int)) (wid : Int) (v61 : Int) (go : (Int × Int) → Option Int) (best : Int) (at_ : Int) : Option Int :=
  guardF ((IntKind.i64.wrap (Int.tdiv (rd (0 : Int) a.1 (1 : Int)) wid)) ≠ 0) <|
  guardF ((IntKind.i64.wrap (Int.tdiv (rd (0 : Int) a.1 (1 : Int)) wid)) ≠ 0) <|
  bif (decide (at_ < (IntKind.i64.wrap ((IntKind.i64.wrap ((IntKind.i64.wrap ((IntKind.i64.wrap (Int.tdiv v61 (IntKind.i64.wrap (Int.tdiv (rd (0 : Int) a.1 (1 : Int)) wid)))) * (rd (0 : Int) a.1 (1 : Int)))) + (IntKind.i64.wrap ((Int.tmod v61 (IntKind.i64.wrap (Int.tdiv (rd (0 : Int) a.1 (1 : Int)) wid))) * wid)))) + wid)))) then
    guardF (0 ≤ at_ ∧ at_ < (List.length a.2 : Int)) <|
    guardF (0 ≤ best ∧ best < (List.length a.2 : Int)) <|
    bif (decide ((rd (0 : Int) a.2 at_) > (rd (0 : Int) a.2 best))) then
      go (at_, (IntKind.i64.wrap (at_ + (1 : Int))))
    else
      go (best, (IntKind.i64.wrap (at_ + (1 : Int))))
  else
    some best
def f93_l6 (a : (List Int) × (List Int)) (wid : Int) (q7_11 : Int × (List Int) × (List Int)) (go : (Int × (List Int) × (List Int)) → Option ((List Int) × (List Int))) (v61 : Int) (l3 : List Int) (l5 : List Int) : Option ((List Int) × (List Int)) :=
  bif (decide (v61 < (List.length q7_11.2.2 : Int))) then
    guardF ((IntKind.i64.wrap (Int.tdiv (rd (0 : Int) a.1 (1 : Int)) wid)) ≠ 0) <|
    guardF ((IntKind.i64.wrap (Int.tdiv (rd (0 : Int) a.1 (1 : Int)) wid)) ≠ 0) <|
    bindF (loopF (fun go x => f93_l7 a wid v61 go x.1 x.2) fuelN ((IntKind.i64.wrap ((IntKind.i64.wrap ((IntKind.i64.wrap (Int.tdiv v61 (IntKind.i64.wrap (Int.tdiv (rd (0 : Int) a.1 (1 : Int)) wid)))) * (rd (0 : Int) a.1 (1 : Int)))) + (IntKind.i64.wrap ((Int.tmod v61 (IntKind.i64.wrap (Int.tdiv (rd (0 : Int) a.1 (1 : Int)) wid))) * wid)))), (IntKind.i64.wrap ((IntKind.i64.wrap ((IntKind.i64.wrap ((IntKind.i64.wrap (Int.tdiv v61 (IntKind.i64.wrap (Int.tdiv (rd (0 : Int) a.1 (1 : Int)) wid)))) * (rd (0 : Int) a.1 (1 : Int)))) + (IntKind.i64.wrap ((Int.tmod v61 (IntKind.i64.wrap (Int.tdiv (rd (0 : Int) a.1 (1 : Int)) wid))) * wid)))) + (1 : Int))))) fun z9 =>
    guardF (0 ≤ z9 ∧ z9 < (List.length a.2 : Int)) <|
    guardF (0 ≤ v61 ∧ v61 < (List.length l5 : Int)) <|
    guardF ((List.length l3 + List.length ([z9])) * 8 ≤ 140737488355328) <|
    go ((IntKind.i64.wrap (v61 + (1 : Int))), (l3 ++ ([z9])), (List.set l5 (Int.toNat v61) (rd (0 : Int) a.2 z9)))
  else
    some (l3, l5)
def f93 (a : (List Int) × (List Int)) (wid : Int) : Option (Int × (List Int) × (List Int) × (List Int)) :=
  bindF (f93_j2 a wid) fun z3 =>
  sumF z3 (fun z3a =>
    guardF (0 ≤ (1 : Int) ∧ (1 : Int) < (List.length a.1 : Int)) <|
    guardF (0 ≤ (1 : Int) ∧ (1 : Int) < (List.length a.1 : Int)) <|
    guardF (wid ≠ 0) <|
    guardF (0 ≤ (0 : Int) ∧ (0 : Int) < (List.length a.1 : Int)) <|
    bindF (f108 ([(rd (0 : Int) a.1 (0 : Int)), (IntKind.i64.wrap (Int.tdiv (rd (0 : Int) a.1 (1 : Int)) wid))])) fun q7_11 =>
    bindF (loopF (fun go x => f93_l6 a wid q7_11 go x.1 x.2.1 x.2.2) fuelN ((0 : Int), [], q7_11.2.2)) fun z8 =>
    some ((0 : Int), q7_11.2.1, z8.2, z8.1)) (fun z3b =>
    some (z3b, [], [], []))
def C93 : Con where
  X := ((List Int) × (List Int)) × Int
  Y := Int × (List Int) × (List Int) × (List Int)
  e := 0
  args x := [.dat (.p (.sl (.int .i64)) (.sl (.int .i64))) x.1, .dat (.int .i64) x.2]
  hin x := []
  F x := f93 x.1 x.2
  ret y := [.raw true [(.osl 0), (.osl 1)], .raw false [(.osl 2)], .dat (.int .i64) y.1]
  hout y := [(0, .arr 3 (.int .i64) y.2.1), (1, .arr 24 (.int .i64) y.2.2.1), (2, .arr 3 (.int .i64) y.2.2.2)]
  nout := 3
theorem C93_vc (a : (List Int) × (List Int)) (wid : Int) (y : Int × (List Int) × (List Int) × (List Int)) (hF : f93 a wid = some y) : vc Try.prog tab Try.f93.ntmps 0 (match Try.f93.body with | some c => c | none => .skip) (retK tab C93 Try.f93.results.toList y) (C93.shIn (a, wid)).st := by
  unfold f93 at hF
  refine Or.inl ?_
  obtain ⟨z3, hz3, hF⟩ := bindE hF
  refine Or.inr ⟨Sum.elim (fun z3a => [(0, ⟨[(1, .dat (.int .i64) wid), (2, .raw false [(.ptr 0 0)]), (4, .raw false [(.ptr 1 0)])], [(0, .cells [(.d (.sl (.int .i64)) a.1), (.d (.sl (.int .i64)) a.2)]), (1, .cells [(.c (.slice none 0 0)), (.c (.slice none 0 0))])], 2⟩)]) (fun z3b => [(1, ⟨[(4, .raw false [(.ptr 0 0)]), (5, .raw false [(.c (.slice none 0 0))]), (6, .dat (.int .i64) z3b)], [(0, .cells [(.c (.slice none 0 0)), (.c (.slice none 0 0))])], 1⟩)]) z3, ?_, ?_⟩
  · have hF := hz3
    clear hz3
    unfold f93_j2 at hF
    refine Or.inl ?_
    obtain ⟨r4, hr4, hF⟩ := bindE hF
    refine Or.inl (And.intro f42_in (callV0 (callI C42 (a.1, a.2) r4 [] false C42_holds hr4 rfl rfl ?_)))
    refine (And.intro rfl (And.intro rfl (And.intro (fun h => nomatch h) (And.intro rfl (And.intro rfl (And.intro trivial (And.intro trivial ?_)))))))
    refine condI hF (fun hF => ?_) (fun hF => ?_)
    · refine Or.inl ?_
      refine Or.inl ?_
      have hz := someE hF
      subst hz
      refine Exists.intro [] (Exists.intro [] (Exists.intro [] (Exists.intro [] (Exists.intro [(0, some 1)] (And.intro rfl (And.intro rfl (And.intro (And.intro rfl (And.intro rfl trivial)) (And.intro rfl trivial))))))))
    · refine Or.inl ?_
      refine condI hF (fun hF => ?_) (fun hF => ?_)
      · refine Or.inl ?_
        refine Or.inl ?_
        have hz := someE hF
        subst hz
        refine Exists.intro [] (Exists.intro [] (Exists.intro [] (Exists.intro [] (Exists.intro [(0, some 1)] (And.intro rfl (And.intro rfl (And.intro (And.intro rfl (And.intro rfl trivial)) (And.intro rfl trivial))))))))
      · obtain ⟨z5, hz5, hF⟩ := bindE hF
        refine Or.inr ⟨[(0, ⟨[(1, .dat (.int .i64) wid), (2, .raw false [(.ptr 0 0)]), (4, .raw false [(.ptr 1 0)]), (26, .dat .bool z5)], [(0, .cells [(.d (.sl (.int .i64)) a.1), (.d (.sl (.int .i64)) a.2)]), (1, .cells [(.c (.slice none 0 0)), (.c (.slice none 0 0))])], 2⟩)], ?_, ?_⟩
        · have hF := hz5
          clear hz5
          unfold f93_j3 at hF
          refine condN hF (fun hF => ?_) (fun hF => ?_)
          · refine gdYF ?_
            refine gdYF ?_
            refine gdYF ?_
            refine guardI hF (fun hF => ?_)
            refine gdYF ?_
            refine gdYF ?_
            refine condF ?_
            have hz := someE hF
            subst hz
            refine Exists.intro [] (Exists.intro [] (Exists.intro [] (Exists.intro [] (Exists.intro [(0, some 0), (1, some 1)] (And.intro rfl (And.intro rfl (And.intro rfl (And.intro (And.intro rfl (And.intro rfl trivial)) (And.intro rfl (And.intro rfl trivial))))))))))
          · refine gdNF ?_
            refine gdNF ?_
            refine gdNF ?_
            refine gdNF ?_
            refine gdNF ?_
            refine condT ?_
            have hz := someE hF
            subst hz
            refine Exists.intro [] (Exists.intro [] (Exists.intro [] (Exists.intro [] (Exists.intro [(0, some 0), (1, some 1)] (And.intro rfl (And.intro rfl (And.intro rfl (And.intro (And.intro rfl (And.intro rfl trivial)) (And.intro rfl (And.intro rfl trivial))))))))))
        · refine And.intro ?_ trivial
          refine condI hF (fun hF => ?_) (fun hF => ?_)
          · refine Or.inl ?_
            refine Or.inl ?_
            have hz := someE hF
            subst hz
            refine Exists.intro [] (Exists.intro [] (Exists.intro [] (Exists.intro [] (Exists.intro [(0, some 1)] (And.intro rfl (And.intro rfl (And.intro (And.intro rfl (And.intro rfl trivial)) (And.intro rfl trivial))))))))
          · have hz := someE hF
            subst hz
            refine Exists.intro [] (Exists.intro [] (Exists.intro [] (Exists.intro [] (Exists.intro [(0, some 0), (1, some 1)] (And.intro rfl (And.intro rfl (And.intro (And.intro rfl (And.intro rfl trivial)) (And.intro rfl (And.intro rfl trivial)))))))))
  · rcases z3 with z3a | z3b
    · dsimp only [sumF] at hF
      refine And.intro ?_ trivial
      refine Or.inl ?_
      refine Exists.intro (.take 0 (.take 1 (.take 2 (.take 3 (.take 4 (.take 5 (.take 6 (.take 7 (.take 8 (.take 9 (.take 10 (.take 11 .done)))))))))))) (Exists.intro [] (Exists.intro [] (And.intro rfl ?_)))
      refine guardI hF (fun hF => ?_)
      refine guardI hF (fun hF => ?_)
      refine guardI hF (fun hF => ?_)
      refine Or.inl ?_
      refine guardI hF (fun hF => ?_)
      refine Or.inl ?_
      obtain ⟨q7_11, hq7_11, hF⟩ := bindE hF
      refine Or.inl (And.intro f108_in (callV0 (callI C108 [(rd (0 : Int) a.1 (0 : Int)), (IntKind.i64.wrap (Int.tdiv (rd (0 : Int) a.1 (1 : Int)) wid))] q7_11 [] true C108_holds hq7_11 rfl rfl ?_)))
      refine (And.intro rfl (And.intro (fun _ => rfl) (And.intro rfl (And.intro rfl (And.intro trivial (And.intro trivial ?_))))))
      refine Or.inl ?_
      refine Or.inl ?_
      refine Or.inl ?_
      refine Or.inl ?_
      obtain ⟨z8, hz8, hF⟩ := bindE hF
      refine loopI (Int × (List Int) × (List Int)) ((List Int) × (List Int)) (fun x => ⟨[(1, .dat (.int .i64) wid), (2, .raw false [(.ptr 0 0)]), (4, .raw false [(.ptr 1 0)]), (7, .dat (.int .i64) (rd (0 : Int) a.1 (1 : Int))), (8, .dat (.int .i64) (IntKind.i64.wrap (Int.tdiv (rd (0 : Int) a.1 (1 : Int)) wid))), (9, .raw false [(.ptr 2 0)]), (11, .raw false [(.osl 3)]), (60, .dat (.int .i64) (List.length q7_11.2.2 : Int)), (61, .dat (.int .i64) x.1)], [(0, .cells [(.d (.sl (.int .i64)) a.1), (.d (.sl (.int .i64)) a.2)]), (1, .cells [(.c (.slice none 0 0)), (.c (.slice none 0 0))]), (2, .cells [(.osl 4), (.osl 5)]), (3, .arr 3 (.int .i64) x.2.1), (4, .arr 3 (.int .i64) q7_11.2.1), (5, .arr 24 (.int .i64) x.2.2)], 6⟩) (fun z => [(3, ⟨[(4, .raw false [(.ptr 0 0)]), (9, .raw false [(.ptr 1 0)]), (11, .raw false [(.osl 2)])], [(0, .cells [(.c (.slice none 0 0)), (.c (.slice none 0 0))]), (1, .cells [(.osl 3), (.osl 4)]), (2, .arr 3 (.int .i64) z.1), (3, .arr 3 (.int .i64) q7_11.2.1), (4, .arr 24 (.int .i64) z.2)], 5⟩)]) (loopF (fun go x => f93_l6 a wid q7_11 go x.1 x.2.1 x.2.2)) fuelN ((0 : Int), [], q7_11.2.2) z8 (And.intro hz8 (And.intro (Exists.intro [] (Exists.intro [] (Exists.intro [] (Exists.intro [] (Exists.intro [(0, some 0), (1, some 1), (2, some 5), (3, none), (4, some 3), (5, some 4)] (And.intro rfl (And.intro rfl (And.intro rfl (And.intro rfl (And.intro rfl (And.intro rfl (And.intro (And.intro rfl (And.intro rfl (And.intro rfl (And.intro rfl trivial)))) (And.intro rfl (And.intro rfl (And.intro rfl (And.intro rfl (And.intro rfl (And.intro rfl trivial)))))))))))))))))) (And.intro (fun _ _ h => loopZ h) (And.intro (fun m => curI (fun v61 => curI (fun l3 => fun l5 z hF => ?_))) ?_))))
      · have hF : f93_l6 a wid q7_11 (loopF (fun go x => f93_l6 a wid q7_11 go x.1 x.2.1 x.2.2) m) v61 l3 l5 = some z := hF
        unfold f93_l6 at hF
        refine Or.inl ?_
        refine Or.inl ?_
        refine condI hF (fun hF => ?_) (fun hF => ?_)
        · refine Or.inl ?_
          refine Or.inl ?_
          refine Or.inl ?_
          refine Exists.intro (.take 0 (.take 1 (.take 2 (.take 3 (.take 4 (.take 5 (.take 6 (.take 7 (.take 8 (.take 9 (.take 10 (.take 11 .done)))))))))))) (Exists.intro [] (Exists.intro [] (And.intro rfl ?_)))
          refine guardI hF (fun hF => ?_)
          refine guardI hF (fun hF => ?_)
          refine Or.inl ?_
          refine Or.inl ?_
          obtain ⟨z9, hz9, hF⟩ := bindE hF
          refine loopI (Int × Int) Int (fun x => ⟨[(1, .dat (.int .i64) wid), (2, .raw false [(.ptr 0 0)]), (4, .raw false [(.ptr 1 0)]), (7, .dat (.int .i64) (rd (0 : Int) a.1 (1 : Int))), (8, .dat (.int .i64) (IntKind.i64.wrap (Int.tdiv (rd (0 : Int) a.1 (1 : Int)) wid))), (9, .raw false [(.ptr 2 0)]), (11, .raw false [(.osl 3)]), (12, .dat (.int .i64) v61), (13, .dat (.int .i64) x.1), (14, .dat (.int .i64) x.2), (60, .dat (.int .i64) (List.length q7_11.2.2 : Int)), (61, .dat (.int .i64) v61)], [(0, .cells [(.d (.sl (.int .i64)) a.1), (.d (.sl (.int .i64)) a.2)]), (1, .cells [(.c (.slice none 0 0)), (.c (.slice none 0 0))]), (2, .cells [(.osl 4), (.osl 5)]), (3, .arr 3 (.int .i64) l3), (4, .arr 3 (.int .i64) q7_11.2.1), (5, .arr 24 (.int .i64) l5)], 6⟩) (fun z => [(5, ⟨[(1, .dat (.int .i64) wid), (2, .raw false [(.ptr 0 0)]), (4, .raw false [(.ptr 1 0)]), (7, .dat (.int .i64) (rd (0 : Int) a.1 (1 : Int))), (8, .dat (.int .i64) (IntKind.i64.wrap (Int.tdiv (rd (0 : Int) a.1 (1 : Int)) wid))), (9, .raw false [(.ptr 2 0)]), (11, .raw false [(.osl 3)]), (12, .dat (.int .i64) v61), (13, .dat (.int .i64) z), (60, .dat (.int .i64) (List.length q7_11.2.2 : Int)), (61, .dat (.int .i64) v61)], [(0, .cells [(.d (.sl (.int .i64)) a.1), (.d (.sl (.int .i64)) a.2)]), (1, .cells [(.c (.slice none 0 0)), (.c (.slice none 0 0))]), (2, .cells [(.osl 4), (.osl 5)]), (3, .arr 3 (.int .i64) l3), (4, .arr 3 (.int .i64) q7_11.2.1), (5, .arr 24 (.int .i64) l5)], 6⟩)]) (loopF (fun go x => f93_l7 a wid v61 go x.1 x.2)) fuelN ((IntKind.i64.wrap ((IntKind.i64.wrap ((IntKind.i64.wrap (Int.tdiv v61 (IntKind.i64.wrap (Int.tdiv (rd (0 : Int) a.1 (1 : Int)) wid)))) * (rd (0 : Int) a.1 (1 : Int)))) + (IntKind.i64.wrap ((Int.tmod v61 (IntKind.i64.wrap (Int.tdiv (rd (0 : Int) a.1 (1 : Int)) wid))) * wid)))), (IntKind.i64.wrap ((IntKind.i64.wrap ((IntKind.i64.wrap ((IntKind.i64.wrap (Int.tdiv v61 (IntKind.i64.wrap (Int.tdiv (rd (0 : Int) a.1 (1 : Int)) wid)))) * (rd (0 : Int) a.1 (1 : Int)))) + (IntKind.i64.wrap ((Int.tmod v61 (IntKind.i64.wrap (Int.tdiv (rd (0 : Int) a.1 (1 : Int)) wid))) * wid)))) + (1 : Int)))) z9 (And.intro hz9 (And.intro (Exists.intro [] (Exists.intro [] (Exists.intro [] (Exists.intro [] (Exists.intro [(0, some 0), (1, some 1), (2, some 2), (3, some 3), (4, some 4), (5, some 5)] (And.intro rfl (And.intro rfl (And.intro rfl (And.intro rfl (And.intro rfl (And.intro rfl (And.intro rfl (And.intro rfl (And.intro rfl (And.intro (And.intro rfl (And.intro rfl (And.intro rfl (And.intro rfl trivial)))) (And.intro rfl (And.intro rfl (And.intro rfl (And.intro rfl (And.intro rfl (And.intro rfl trivial))))))))))))))))))))) (And.intro (fun _ _ h => loopZ h) (And.intro (fun m => curI (fun best => fun at_ z hF => ?_)) ?_))))
          · have hF : f93_l7 a wid v61 (loopF (fun go x => f93_l7 a wid v61 go x.1 x.2) m) best at_ = some z := hF
            unfold f93_l7 at hF
            refine Or.inl ?_
            refine Or.inl ?_
            refine Exists.intro (.take 0 (.take 1 (.take 2 (.take 3 (.take 4 (.take 5 (.take 6 (.take 7 (.take 8 (.take 9 (.take 10 (.take 11 (.take 12 (.take 13 (.take 14 .done))))))))))))))) (Exists.intro [] (Exists.intro [] (And.intro rfl ?_)))
            refine guardI hF (fun hF => ?_)
            refine guardI hF (fun hF => ?_)
            refine condI hF (fun hF => ?_) (fun hF => ?_)
            · refine Or.inl ?_
              refine Or.inl ?_
              refine Exists.intro (.take 0 (.take 1 (.take 2 (.take 3 (.take 4 (.take 5 (.take 6 (.take 7 (.take 8 (.take 9 (.take 10 .done))))))))))) (Exists.intro [] (Exists.intro [] (And.intro rfl ?_)))
              refine guardI hF (fun hF => ?_)
              refine guardI hF (fun hF => ?_)
              refine condI hF (fun hF => ?_) (fun hF => ?_)
              · refine Exists.intro (at_, (IntKind.i64.wrap (at_ + (1 : Int)))) (And.intro hF (Exists.intro [] (Exists.intro [] (Exists.intro [] (Exists.intro [] (Exists.intro [(0, some 0), (1, some 1), (2, some 2), (3, some 3), (4, some 4), (5, some 5)] (And.intro rfl (And.intro rfl (And.intro rfl (And.intro rfl (And.intro rfl (And.intro rfl (And.intro rfl (And.intro rfl (And.intro rfl (And.intro (And.intro rfl (And.intro rfl (And.intro rfl (And.intro rfl trivial)))) (And.intro rfl (And.intro rfl (And.intro rfl (And.intro rfl (And.intro rfl (And.intro rfl trivial))))))))))))))))))))))
              · refine Exists.intro (best, (IntKind.i64.wrap (at_ + (1 : Int)))) (And.intro hF (Exists.intro [] (Exists.intro [] (Exists.intro [] (Exists.intro [] (Exists.intro [(0, some 0), (1, some 1), (2, some 2), (3, some 3), (4, some 4), (5, some 5)] (And.intro rfl (And.intro rfl (And.intro rfl (And.intro rfl (And.intro rfl (And.intro rfl (And.intro rfl (And.intro rfl (And.intro rfl (And.intro (And.intro rfl (And.intro rfl (And.intro rfl (And.intro rfl trivial)))) (And.intro rfl (And.intro rfl (And.intro rfl (And.intro rfl (And.intro rfl (And.intro rfl trivial))))))))))))))))))))))
            · have hz := someE hF
              subst hz
              refine Exists.intro [] (Exists.intro [] (Exists.intro [] (Exists.intro [] (Exists.intro [(0, some 0), (1, some 1), (2, some 2), (3, some 3), (4, some 4), (5, some 5)] (And.intro rfl (And.intro rfl (And.intro rfl (And.intro rfl (And.intro rfl (And.intro rfl (And.intro rfl (And.intro rfl (And.intro (And.intro rfl (And.intro rfl (And.intro rfl (And.intro rfl trivial)))) (And.intro rfl (And.intro rfl (And.intro rfl (And.intro rfl (And.intro rfl (And.intro rfl trivial)))))))))))))))))))
          · refine And.intro ?_ trivial
            refine Or.inl ?_
            refine Exists.intro (.take 0 (.take 1 (.take 2 (.take 3 (.take 4 (.take 5 (.take 6 (.take 7 (.take 8 (.alt 9 .done .done)))))))))) (Exists.intro [] (Exists.intro [] (And.intro rfl ?_)))
            refine guardI hF (fun hF => ?_)
            refine guardI hF (fun hF => ?_)
            refine And.intro trivial ?_
            refine Or.inl ?_
            refine Or.inl ?_
            refine Or.inl ?_
            refine guardI hF (fun hF => ?_)
            refine Exists.intro ((IntKind.i64.wrap (v61 + (1 : Int))), (l3 ++ ([z9])), (List.set l5 (Int.toNat v61) (rd (0 : Int) a.2 z9))) (And.intro hF (Exists.intro [] (Exists.intro [] (Exists.intro [] (Exists.intro [] (Exists.intro [(0, some 0), (1, some 1), (2, some 2), (3, some 7), (4, some 4), (5, some 5)] (And.intro rfl (And.intro rfl (And.intro rfl (And.intro rfl (And.intro rfl (And.intro rfl (And.intro (And.intro rfl (And.intro rfl (And.intro rfl (And.intro rfl trivial)))) (And.intro rfl (And.intro rfl (And.intro rfl (And.intro rfl (And.intro rfl (And.intro rfl trivial)))))))))))))))))))
        · have hz := someE hF
          subst hz
          refine Exists.intro [] (Exists.intro [] (Exists.intro [] (Exists.intro [] (Exists.intro [(0, some 1), (1, some 2), (2, some 3), (3, some 4), (4, some 5)] (And.intro rfl (And.intro (And.intro rfl (And.intro rfl (And.intro rfl trivial))) (And.intro rfl (And.intro rfl (And.intro rfl (And.intro rfl (And.intro rfl trivial)))))))))))
      · refine And.intro ?_ trivial
        refine Or.inl ?_
        refine Or.inl ?_
        have hy := someE hF
        subst hy
        refine And.intro rfl (Exists.intro [] (Exists.intro [] (Exists.intro [] (Exists.intro [] (Exists.intro [(0, some 3), (1, some 4), (2, some 2)] (And.intro rfl (And.intro rfl (And.intro (And.intro rfl (And.intro rfl trivial)) (And.intro rfl (And.intro rfl (And.intro rfl trivial)))))))))))
    · dsimp only [sumF] at hF
      refine And.intro ?_ trivial
      have hy := someE hF
      subst hy
      refine And.intro rfl (Exists.intro [] (Exists.intro [] (Exists.intro [] (Exists.intro [] (Exists.intro [(0, none), (1, none), (2, none)] (And.intro rfl (And.intro rfl (And.intro (And.intro rfl (And.intro rfl trivial)) (And.intro rfl (And.intro rfl (And.intro rfl trivial)))))))))))
theorem C93_holds : C93.Holds Try.prog 93 := holds_of_vc tab_ok mixed (fn := Try.f93) (by kernel_rfl) rfl C93 (fun x y hF => C93_vc x.1 x.2 y hF)
theorem f93_in : ∃ fn, Try.prog.funcs[93]? = some fn ∧ fn.body.isSome = true ∧ (fn.name == "runtime.NumGoroutine") = false := ⟨Try.f93, by kernel_rfl, by kernel_rfl, by kernel_rfl⟩
end Go.Proofs
namespace Go.Proofs
open Go.AM
-- carousel/tens.Reshape
def f94_j3 (a : (List Int) × (List Int)) (d : List Int) : Option Bool :=
  bindF (f42 (a.1, a.2)) fun r8 =>
  bif (!r8) then
    some true
  else
    bindF (f74 d) fun r9 =>
    some (!r9)
def f94_j2 (a : (List Int) × (List Int)) (d : List Int) : Option (Sum Unit Int) :=
  bindF (f94_j3 a d) fun z7 =>
  bif z7 then
    some (Sum.inr (1 : Int))
  else
    bindF (f49 d) fun q3_1 =>
    bif (q3_1 != (List.length a.2 : Int)) then
      some (Sum.inr (4 : Int))
    else
      some (Sum.inl ())
def f94 (a : (List Int) × (List Int)) (d : List Int) : Option (Int × (List Int) × (List Int)) :=
  bindF (f94_j2 a d) fun z5 =>
  sumF z5 (fun z5a =>
    bindF (f75 d) fun q5_1 =>
    bindF (f87 a.2) fun q5_4 =>
    some ((0 : Int), q5_1, q5_4)) (fun z5b =>
    some (z5b, [], []))
def C94 : Con where
  X := ((List Int) × (List Int)) × (List Int)
  Y := Int × (List Int) × (List Int)
  e := 0
  args x := [.dat (.p (.sl (.int .i64)) (.sl (.int .i64))) x.1, .dat (.sl (.int .i64)) x.2]
  hin x := []
  F x := f94 x.1 x.2
  ret y := [.raw true [(.osl 0), (.osl 1)], .dat (.int .i64) y.1]
  hout y := [(0, .arr 3 (.int .i64) y.2.1), (1, .arr 24 (.int .i64) y.2.2)]
  nout := 2
theorem C94_vc (a : (List Int) × (List Int)) (d : List Int) (y : Int × (List Int) × (List Int)) (hF : f94 a d = some y) : vc Try.prog tab Try.f94.ntmps 0 (match Try.f94.body with | some c => c | none => .skip) (retK tab C94 Try.f94.results.toList y) (C94.shIn (a, d)).st := by
  unfold f94 at hF
  refine Or.inl ?_
  obtain ⟨z5, hz5, hF⟩ := bindE hF
  refine Or.inr ⟨Sum.elim (fun z5a => [(0, ⟨[(1, .dat (.sl (.int .i64)) d), (2, .raw false [(.ptr 0 0)]), (4, .raw false [(.ptr 1 0)])], [(0, .cells [(.d (.sl (.int .i64)) a.1), (.d (.sl (.int .i64)) a.2)]), (1, .cells [(.c (.slice none 0 0)), (.c (.slice none 0 0))])], 2⟩)]) (fun z5b => [(1, ⟨[(4, .raw false [(.ptr 0 0)]), (5, .dat (.int .i64) z5b)], [(0, .cells [(.c (.slice none 0 0)), (.c (.slice none 0 0))])], 1⟩)]) z5, ?_, ?_⟩
  · have hF := hz5
    clear hz5
    unfold f94_j2 at hF
    obtain ⟨z7, hz7, hF⟩ := bindE hF
    refine Or.inr ⟨[(0, ⟨[(1, .dat (.sl (.int .i64)) d), (2, .raw false [(.ptr 0 0)]), (4, .raw false [(.ptr 1 0)]), (6, .dat .bool z7)], [(0, .cells [(.d (.sl (.int .i64)) a.1), (.d (.sl (.int .i64)) a.2)]), (1, .cells [(.c (.slice none 0 0)), (.c (.slice none 0 0))])], 2⟩)], ?_, ?_⟩
    · have hF := hz7
      clear hz7
      unfold f94_j3 at hF
      obtain ⟨r8, hr8, hF⟩ := bindE hF
      refine Or.inl (And.intro f42_in (callV0 (callI C42 (a.1, a.2) r8 [] false C42_holds hr8 rfl rfl ?_)))
      refine (And.intro rfl (And.intro rfl (And.intro (fun h => nomatch h) (And.intro rfl (And.intro rfl (And.intro trivial (And.intro trivial ?_)))))))
      refine condN hF (fun hF => ?_) (fun hF => ?_)
      · refine gdYF ?_
        obtain ⟨r9, hr9, hF⟩ := bindE hF
        refine Or.inl (And.intro f74_in (callV0 (callI C74 d r9 [] false C74_holds hr9 rfl rfl ?_)))
        refine (And.intro rfl (And.intro (fun h => nomatch h) (And.intro rfl (And.intro rfl (And.intro trivial (And.intro trivial ?_))))))
        refine gdYF ?_
        refine condF ?_
        have hz := someE hF
        subst hz
        refine Exists.intro [] (Exists.intro [] (Exists.intro [] (Exists.intro [] (Exists.intro [(0, some 0), (1, some 1)] (And.intro rfl (And.intro rfl (And.intro rfl (And.intro (And.intro rfl (And.intro rfl trivial)) (And.intro rfl (And.intro rfl trivial))))))))))
      · refine gdNF ?_
        refine gdNF ?_
        refine condT ?_
        have hz := someE hF
        subst hz
        refine Exists.intro [] (Exists.intro [] (Exists.intro [] (Exists.intro [] (Exists.intro [(0, some 0), (1, some 1)] (And.intro rfl (And.intro rfl (And.intro rfl (And.intro (And.intro rfl (And.intro rfl trivial)) (And.intro rfl (And.intro rfl trivial))))))))))
    · refine And.intro ?_ trivial
      refine condI hF (fun hF => ?_) (fun hF => ?_)
      · refine Or.inl ?_
        refine Or.inl ?_
        have hz := someE hF
        subst hz
        refine Exists.intro [] (Exists.intro [] (Exists.intro [] (Exists.intro [] (Exists.intro [(0, some 1)] (And.intro rfl (And.intro rfl (And.intro (And.intro rfl trivial) (And.intro rfl trivial))))))))
      · refine Or.inl ?_
        refine Exists.intro (.take 0 (.take 2 (.take 3 (.take 4 (.alt 1 (.take 5 (.take 6 .done)) .done))))) (Exists.intro [] (Exists.intro [] (And.intro rfl ?_)))
        refine And.intro trivial ?_
        obtain ⟨q3_1, hq3_1, hF⟩ := bindE hF
        refine Or.inl (And.intro f49_in (callV0 (callI C49 d q3_1 [] false C49_holds hq3_1 rfl rfl ?_)))
        refine (And.intro rfl (And.intro (fun h => nomatch h) (And.intro rfl (And.intro rfl (And.intro trivial (And.intro trivial ?_))))))
        refine condI hF (fun hF => ?_) (fun hF => ?_)
        · refine Or.inl ?_
          refine Or.inl ?_
          have hz := someE hF
          subst hz
          refine Exists.intro [] (Exists.intro [] (Exists.intro [] (Exists.intro [] (Exists.intro [(0, some 1)] (And.intro rfl (And.intro rfl (And.intro (And.intro rfl trivial) (And.intro rfl trivial))))))))
        · have hz := someE hF
          subst hz
          refine Exists.intro [] (Exists.intro [] (Exists.intro [] (Exists.intro [] (Exists.intro [(0, some 0), (1, some 1)] (And.intro rfl (And.intro rfl (And.intro (And.intro rfl (And.intro rfl trivial)) (And.intro rfl (And.intro rfl trivial)))))))))
  · rcases z5 with z5a | z5b
    · dsimp only [sumF] at hF
      refine And.intro ?_ trivial
      refine Or.inl ?_
      refine Exists.intro (.take 0 (.take 2 (.take 3 (.alt 1 (.alt 4 (.take 5 (.alt 6 (.take 7 .done) .done)) .done) .done)))) (Exists.intro [] (Exists.intro [] (And.intro rfl ?_)))
      refine And.intro trivial ?_
      obtain ⟨q5_1, hq5_1, hF⟩ := bindE hF
      refine Or.inl (And.intro f75_in (callV0 (callI C75 d q5_1 [] false C75_holds hq5_1 rfl rfl ?_)))
      refine (And.intro rfl (And.intro (fun h => nomatch h) (And.intro rfl (And.intro rfl (And.intro trivial (And.intro trivial ?_))))))
      refine And.intro trivial ?_
      obtain ⟨q5_4, hq5_4, hF⟩ := bindE hF
      refine Or.inl (And.intro f87_in (callV0 (callI C87 a.2 q5_4 [] false C87_holds hq5_4 rfl rfl ?_)))
      refine (And.intro rfl (And.intro (fun h => nomatch h) (And.intro rfl (And.intro rfl (And.intro trivial (And.intro trivial ?_))))))
      refine And.intro trivial ?_
      refine Or.inl ?_
      have hy := someE hF
      subst hy
      refine And.intro rfl (Exists.intro [] (Exists.intro [] (Exists.intro [] (Exists.intro [] (Exists.intro [(0, some 2), (1, some 3)] (And.intro rfl (And.intro rfl (And.intro (And.intro rfl trivial) (And.intro rfl (And.intro rfl trivial))))))))))
    · dsimp only [sumF] at hF
      refine And.intro ?_ trivial
      have hy := someE hF
      subst hy
      refine And.intro rfl (Exists.intro [] (Exists.intro [] (Exists.intro [] (Exists.intro [] (Exists.intro [(0, none), (1, none)] (And.intro rfl (And.intro rfl (And.intro (And.intro rfl trivial) (And.intro rfl (And.intro rfl trivial))))))))))
theorem C94_holds : C94.Holds Try.prog 94 := holds_of_vc tab_ok mixed (fn := Try.f94) (by kernel_rfl) rfl C94 (fun x y hF => C94_vc x.1 x.2 y hF)
theorem f94_in : ∃ fn, Try.prog.funcs[94]? = some fn ∧ fn.body.isSome = true ∧ (fn.name == "runtime.NumGoroutine") = false := ⟨Try.f94, by kernel_rfl, by kernel_rfl, by kernel_rfl⟩
end Go.Proofs
namespace Go.Proofs
open Go.AM
-- carousel/tape.one
def f62 (op : Int) (a : (List Int) × (List Int)) (k : Int) : Option (Int × (List Int) × (List Int)) :=
  bif (op == (5 : Int)) then
    bindF (f35 (a.1, a.2) k) fun r1 =>
    some (r1.1, r1.2.1, r1.2.2)
  else
    bif (op == (7 : Int)) then
      bindF (f18 (a.1, a.2)) fun r2 =>
      some (r2.1, r2.2.1, r2.2.2)
    else
      bif (op == (8 : Int)) then
        bindF (f23 (a.1, a.2) k) fun r3 =>
        some (r3.1, r3.2.1, r3.2.2)
      else
        bif (op == (9 : Int)) then
          bindF (f24 (a.1, a.2)) fun r4 =>
          bindF (f91 r4.1 r4.2) fun r5 =>
          some (r5.1, r5.2.1, r5.2.2)
        else
          bif (op == (10 : Int)) then
            bindF (f25 (a.1, a.2)) fun r6 =>
            bindF (f91 r6.1 r6.2) fun r7 =>
            some (r7.1, r7.2.1, r7.2.2)
          else
            bif (op == (11 : Int)) then
              bindF (f92 k (a.1, a.2)) fun r8 =>
              some (r8.1, r8.2.1, r8.2.2)
            else
              bif (op == (13 : Int)) then
                bindF (f93 (a.1, a.2) k) fun r9 =>
                some (r9.1, r9.2.1, r9.2.2.1)
              else
                bindF (f94 (a.1, a.2) ([(List.length a.2 : Int)])) fun r10 =>
                some (r10.1, r10.2.1, r10.2.2)
def C62 : Con where
  X := Int × ((List Int) × (List Int)) × Int
  Y := Int × (List Int) × (List Int)
  e := 0
  args x := [.dat (.int .i64) x.1, .dat (.p (.sl (.int .i64)) (.sl (.int .i64))) x.2.1, .dat (.int .i64) x.2.2]
  hin x := []
  F x := f62 x.1 x.2.1 x.2.2
  ret y := [.raw true [(.osl 0), (.osl 1)], .dat (.int .i64) y.1]
  hout y := [(0, .arr 3 (.int .i64) y.2.1), (1, .arr 24 (.int .i64) y.2.2)]
  nout := 2
theorem C62_vc (op : Int) (a : (List Int) × (List Int)) (k : Int) (y : Int × (List Int) × (List Int)) (hF : f62 op a k = some y) : vc Try.prog tab Try.f62.ntmps 0 (match Try.f62.body with | some c => c | none => .skip) (retK tab C62 Try.f62.results.toList y) (C62.shIn (op, a, k)).st := by
  unfold f62 at hF
  refine Or.inl ?_
  refine Or.inl ?_
  refine Or.inl ?_
  refine Or.inl ?_
  refine condI hF (fun hF => ?_) (fun hF => ?_)
  · refine Or.inl ?_
    obtain ⟨r1, hr1, hF⟩ := bindE hF
    refine Or.inl (And.intro f35_in (callV0 (callI C35 ((a.1, a.2), k) r1 [] false C35_holds hr1 rfl rfl ?_)))
    refine (And.intro rfl (And.intro rfl (And.intro rfl (And.intro (fun h => nomatch h) (And.intro rfl (And.intro rfl (And.intro trivial (And.intro trivial ?_))))))))
    refine Or.inl ?_
    have hy := someE hF
    subst hy
    refine And.intro rfl (Exists.intro [] (Exists.intro [] (Exists.intro [] (Exists.intro [] (Exists.intro [(0, some 2), (1, some 3)] (And.intro rfl (And.intro rfl (And.intro (And.intro rfl trivial) (And.intro rfl (And.intro rfl trivial))))))))))
  · refine Or.inl ?_
    refine condI hF (fun hF => ?_) (fun hF => ?_)
    · refine Or.inl ?_
      obtain ⟨r2, hr2, hF⟩ := bindE hF
      refine Or.inl (And.intro f18_in (callV0 (callI C18 (a.1, a.2) r2 [] false C18_holds hr2 rfl rfl ?_)))
      refine (And.intro rfl (And.intro rfl (And.intro (fun h => nomatch h) (And.intro rfl (And.intro rfl (And.intro trivial (And.intro trivial ?_)))))))
      refine Or.inl ?_
      have hy := someE hF
      subst hy
      refine And.intro rfl (Exists.intro [] (Exists.intro [] (Exists.intro [] (Exists.intro [] (Exists.intro [(0, some 2), (1, some 3)] (And.intro rfl (And.intro rfl (And.intro (And.intro rfl trivial) (And.intro rfl (And.intro rfl trivial))))))))))
    · refine Or.inl ?_
      refine condI hF (fun hF => ?_) (fun hF => ?_)
      · refine Or.inl ?_
        obtain ⟨r3, hr3, hF⟩ := bindE hF
        refine Or.inl (And.intro f23_in (callV0 (callI C23 ((a.1, a.2), k) r3 [] false C23_holds hr3 rfl rfl ?_)))
        refine (And.intro rfl (And.intro rfl (And.intro rfl (And.intro (fun h => nomatch h) (And.intro rfl (And.intro rfl (And.intro trivial (And.intro trivial ?_))))))))
        refine Or.inl ?_
        have hy := someE hF
        subst hy
        refine And.intro rfl (Exists.intro [] (Exists.intro [] (Exists.intro [] (Exists.intro [] (Exists.intro [(0, some 2), (1, some 3)] (And.intro rfl (And.intro rfl (And.intro (And.intro rfl trivial) (And.intro rfl (And.intro rfl trivial))))))))))
      · refine Or.inl ?_
        refine condI hF (fun hF => ?_) (fun hF => ?_)
        · refine Or.inl ?_
          obtain ⟨r4, hr4, hF⟩ := bindE hF
          refine Or.inl (And.intro f24_in (callV0 (callI C24 (a.1, a.2) r4 [] false C24_holds hr4 rfl rfl ?_)))
          refine (And.intro rfl (And.intro rfl (And.intro (fun h => nomatch h) (And.intro rfl (And.intro rfl (And.intro trivial (And.intro trivial ?_)))))))
          obtain ⟨r5, hr5, hF⟩ := bindE hF
          refine Or.inl (And.intro f91_in (callV0 (callI C91 (r4.1, r4.2) r5 [] false C91_holds hr5 rfl rfl ?_)))
          refine (And.intro rfl (And.intro rfl (And.intro (fun h => nomatch h) (And.intro rfl (And.intro rfl (And.intro trivial (And.intro trivial ?_)))))))
          refine Or.inl ?_
          have hy := someE hF
          subst hy
          refine And.intro rfl (Exists.intro [] (Exists.intro [] (Exists.intro [] (Exists.intro [] (Exists.intro [(0, some 2), (1, some 3)] (And.intro rfl (And.intro rfl (And.intro (And.intro rfl trivial) (And.intro rfl (And.intro rfl trivial))))))))))
        · refine Or.inl ?_
          refine condI hF (fun hF => ?_) (fun hF => ?_)
          · refine Or.inl ?_
            obtain ⟨r6, hr6, hF⟩ := bindE hF
            refine Or.inl (And.intro f25_in (callV0 (callI C25 (a.1, a.2) r6 [] false C25_holds hr6 rfl rfl ?_)))
            refine (And.intro rfl (And.intro rfl (And.intro (fun h => nomatch h) (And.intro rfl (And.intro rfl (And.intro trivial (And.intro trivial ?_)))))))
            obtain ⟨r7, hr7, hF⟩ := bindE hF
            refine Or.inl (And.intro f91_in (callV0 (callI C91 (r6.1, r6.2) r7 [] false C91_holds hr7 rfl rfl ?_)))
            refine (And.intro rfl (And.intro rfl (And.intro (fun h => nomatch h) (And.intro rfl (And.intro rfl (And.intro trivial (And.intro trivial ?_)))))))
            refine Or.inl ?_
            have hy := someE hF
            subst hy
            refine And.intro rfl (Exists.intro [] (Exists.intro [] (Exists.intro [] (Exists.intro [] (Exists.intro [(0, some 2), (1, some 3)] (And.intro rfl (And.intro rfl (And.intro (And.intro rfl trivial) (And.intro rfl (And.intro rfl trivial))))))))))
          · refine Or.inl ?_
            refine condI hF (fun hF => ?_) (fun hF => ?_)
            · refine Or.inl ?_
              obtain ⟨r8, hr8, hF⟩ := bindE hF
              refine Or.inl (And.intro f92_in (callV0 (callI C92 (k, (a.1, a.2)) r8 [] false C92_holds hr8 rfl rfl ?_)))
              refine (And.intro rfl (And.intro rfl (And.intro rfl (And.intro (fun h => nomatch h) (And.intro rfl (And.intro rfl (And.intro trivial (And.intro trivial ?_))))))))
              refine Or.inl ?_
              have hy := someE hF
              subst hy
              refine And.intro rfl (Exists.intro [] (Exists.intro [] (Exists.intro [] (Exists.intro [] (Exists.intro [(0, some 2), (1, some 3)] (And.intro rfl (And.intro rfl (And.intro (And.intro rfl trivial) (And.intro rfl (And.intro rfl trivial))))))))))
            · refine Or.inl ?_
              refine condI hF (fun hF => ?_) (fun hF => ?_)
              · refine Or.inl ?_
                obtain ⟨r9, hr9, hF⟩ := bindE hF
                refine Or.inl (And.intro f93_in (callV0 (callI C93 ((a.1, a.2), k) r9 [] false C93_holds hr9 rfl rfl ?_)))
                refine (And.intro rfl (And.intro rfl (And.intro rfl (And.intro (fun h => nomatch h) (And.intro rfl (And.intro rfl (And.intro trivial (And.intro trivial ?_))))))))
                refine Or.inl ?_
                refine Or.inl ?_
                refine Or.inl ?_
                have hy := someE hF
                subst hy
                refine And.intro rfl (Exists.intro [] (Exists.intro [] (Exists.intro [] (Exists.intro [] (Exists.intro [(0, some 2), (1, some 3)] (And.intro rfl (And.intro rfl (And.intro (And.intro rfl trivial) (And.intro rfl (And.intro rfl trivial))))))))))
              · refine Or.inl ?_
                refine Or.inl ?_
                obtain ⟨r10, hr10, hF⟩ := bindE hF
                refine Or.inl (And.intro f94_in (callV0 (callI C94 ((a.1, a.2), [(List.length a.2 : Int)]) r10 [] true C94_holds hr10 rfl rfl ?_)))
                refine (And.intro rfl (And.intro rfl (And.intro rfl (And.intro (fun _ => rfl) (And.intro rfl (And.intro rfl (And.intro trivial (And.intro trivial ?_))))))))
                refine Or.inl ?_
                have hy := someE hF
                subst hy
                refine And.intro rfl (Exists.intro [] (Exists.intro [] (Exists.intro [] (Exists.intro [] (Exists.intro [(0, some 3), (1, some 4)] (And.intro rfl (And.intro rfl (And.intro (And.intro rfl trivial) (And.intro rfl (And.intro rfl trivial))))))))))
theorem C62_holds : C62.Holds Try.prog 62 := holds_of_vc tab_ok mixed (fn := Try.f62) (by kernel_rfl) rfl C62 (fun x y hF => C62_vc x.1 x.2.1 x.2.2 y hF)
theorem f62_in : ∃ fn, Try.prog.funcs[62]? = some fn ∧ fn.body.isSome = true ∧ (fn.name == "runtime.NumGoroutine") = false := ⟨Try.f62, by kernel_rfl, by kernel_rfl, by kernel_rfl⟩
end Go.Proofs
namespace Go.Proofs
open Go.AM
-- (*carousel/tape.Tape).Do
def f29_j1 (t_l : List (Int × Int × Int × Int × (List Int) × (List Int))) (op : Int) (a : Int) (b : Int) : Option (Sum (List (Int × Int × Int × Int × (List Int) × (List Int))) (Int × (List (Int × Int × Int × Int × (List Int) × (List Int))))) :=
  bif (decide ((List.length t_l : Int) ≥ (512 : Int))) then
    some (Sum.inr ((2 : Int), t_l))
  else
    bif (decide (op < (2 : Int))) then
      some (Sum.inr ((1 : Int), t_l))
    else
      bif (decide (op > (14 : Int))) then
        some (Sum.inr ((1 : Int), t_l))
      else
        bindF (f58 t_l a) fun r5 =>
        bif (!r5.1) then
          some (Sum.inr ((1 : Int), r5.2))
        else
          bindF (f59 op) fun r6 =>
          bif r6 then
            bindF (f58 r5.2 b) fun r7 =>
            bif (!r7.1) then
              some (Sum.inr ((1 : Int), r7.2))
            else
              some (Sum.inl r7.2)
          else
            some (Sum.inl r5.2)
def f29_j2 (op : Int) (k : Int) : Option Int :=
  bindF (f60 op) fun r10 =>
  bif r10 then
    some k
  else
    some (0 : Int)
def f29_j3 (op : Int) (a : Int) (b : Int) (k : Int) (z4a : List (Int × Int × Int × Int × (List Int) × (List Int))) : Option (Int × Int × (List Int) × (List Int)) :=
  bindF (f59 op) fun r13 =>
  bif r13 then
    guardF (0 ≤ a ∧ a < (List.length z4a : Int)) <|
    guardF (0 ≤ b ∧ b < (List.length z4a : Int)) <|
    bindF (f61 op ((((((rd (Ty.z (.p (.int .i64) (.p (.int .i64) (.p (.int .i64) (.p (.int .i64) (.p (.sl (.int .i64)) (.sl (.int .i64)))))))) z4a a).2).2).2).2).1, (((((rd (Ty.z (.p (.int .i64) (.p (.int .i64) (.p (.int .i64) (.p (.int .i64) (.p (.sl (.int .i64)) (.sl (.int .i64)))))))) z4a a).2).2).2).2).2) ((((((rd (Ty.z (.p (.int .i64) (.p (.int .i64) (.p (.int .i64) (.p (.int .i64) (.p (.sl (.int .i64)) (.sl (.int .i64)))))))) z4a b).2).2).2).2).1, (((((rd (Ty.z (.p (.int .i64) (.p (.int .i64) (.p (.int .i64) (.p (.int .i64) (.p (.sl (.int .i64)) (.sl (.int .i64)))))))) z4a b).2).2).2).2).2) k) fun q11_18 =>
    some (q11_18.1, b, q11_18.2.1, q11_18.2.2)
  else
    guardF (0 ≤ a ∧ a < (List.length z4a : Int)) <|
    bindF (f62 op ((((((rd (Ty.z (.p (.int .i64) (.p (.int .i64) (.p (.int .i64) (.p (.int .i64) (.p (.sl (.int .i64)) (.sl (.int .i64)))))))) z4a a).2).2).2).2).1, (((((rd (Ty.z (.p (.int .i64) (.p (.int .i64) (.p (.int .i64) (.p (.int .i64) (.p (.sl (.int .i64)) (.sl (.int .i64)))))))) z4a a).2).2).2).2).2) k) fun q11_24 =>
    some (q11_24.1, (-1 : Int), q11_24.2.1, q11_24.2.2)
def f29 (t_l : List (Int × Int × Int × Int × (List Int) × (List Int))) (op : Int) (a : Int) (b : Int) (k : Int) : Option (Int × Int × (List (Int × Int × Int × Int × (List Int) × (List Int)))) :=
  bindF (f29_j1 t_l op a b) fun z4 =>
  sumF z4 (fun z4a =>
    bindF (f29_j2 op k) fun z9 =>
    bindF (f29_j3 op a b k z4a) fun z12 =>
    bif (z12.1 != (0 : Int)) then
      some ((0 : Int), z12.1, z4a)
    else
      bindF (f56 z4a (op, a, z12.2.1, z9, z12.2.2.1, z12.2.2.2)) fun r14 =>
      some (r14.1, (0 : Int), r14.2)) (fun z4b =>
    some ((0 : Int), z4b.1, z4b.2))
def C29 : Con where
  X := (List (Int × Int × Int × Int × (List Int) × (List Int))) × Int × Int × Int × Int
  Y := Int × Int × (List (Int × Int × Int × Int × (List Int) × (List Int)))
  e := 2
  args x := [.raw false [(.ptr 0 0)], .dat (.int .i64) x.2.1, .dat (.int .i64) x.2.2.1, .dat (.int .i64) x.2.2.2.1, .dat (.int .i64) x.2.2.2.2]
  hin x := [(0, .cells [(.osl 1)]), (1, .arr 51 (.p (.int .i64) (.p (.int .i64) (.p (.int .i64) (.p (.int .i64) (.p (.sl (.int .i64)) (.sl (.int .i64))))))) x.1)]
  F x := f29 x.1 x.2.1 x.2.2.1 x.2.2.2.1 x.2.2.2.2
  ret y := [.dat (.int .i64) y.1, .dat (.int .i64) y.2.1]
  hout y := [(0, .cells [(.osl 2)]), (2, .arr 51 (.p (.int .i64) (.p (.int .i64) (.p (.int .i64) (.p (.int .i64) (.p (.sl (.int .i64)) (.sl (.int .i64))))))) y.2.2)]
  nout := 3
theorem C29_vc (t_l : List (Int × Int × Int × Int × (List Int) × (List Int))) (op : Int) (a : Int) (b : Int) (k : Int) (y : Int × Int × (List (Int × Int × Int × Int × (List Int) × (List Int)))) (hF : f29 t_l op a b k = some y) : vc Try.prog tab Try.f29.ntmps 2 (match Try.f29.body with | some c => c | none => .skip) (retK tab C29 Try.f29.results.toList y) (C29.shIn (t_l, op, a, b, k)).st := by
  unfold f29 at hF
  refine Or.inl ?_
  obtain ⟨z4, hz4, hF⟩ := bindE hF
  refine Or.inr ⟨Sum.elim (fun z4a => [(0, ⟨[(0, .raw false [(.ptr 0 0)]), (1, .dat (.int .i64) op), (2, .dat (.int .i64) a), (3, .dat (.int .i64) b), (4, .dat (.int .i64) k)], [(0, .cells [(.osl 1)]), (1, .arr 51 (.p (.int .i64) (.p (.int .i64) (.p (.int .i64) (.p (.int .i64) (.p (.sl (.int .i64)) (.sl (.int .i64))))))) z4a)], 2⟩)]) (fun z4b => [(1, ⟨[(10, .dat (.int .i64) (0 : Int)), (11, .dat (.int .i64) z4b.1)], [(0, .cells [(.osl 1)]), (1, .arr 51 (.p (.int .i64) (.p (.int .i64) (.p (.int .i64) (.p (.int .i64) (.p (.sl (.int .i64)) (.sl (.int .i64))))))) z4b.2)], 2⟩)]) z4, ?_, ?_⟩
  · have hF := hz4
    clear hz4
    unfold f29_j1 at hF
    refine Or.inl ?_
    refine condI hF (fun hF => ?_) (fun hF => ?_)
    · refine Or.inl ?_
      have hz := someE hF
      subst hz
      refine Exists.intro [] (Exists.intro [] (Exists.intro [] (Exists.intro [] (Exists.intro [(0, some 0), (1, some 1)] (And.intro rfl (And.intro rfl (And.intro rfl (And.intro trivial (And.intro rfl (And.intro rfl trivial))))))))))
    · refine Or.inl ?_
      refine condN hF (fun hF => ?_) (fun hF => ?_)
      · refine gdYF ?_
        refine condF ?_
        refine condN hF (fun hF => ?_) (fun hF => ?_)
        · refine gdYF ?_
          refine gdYF ?_
          obtain ⟨r5, hr5, hF⟩ := bindE hF
          refine Or.inl (And.intro f58_in (callV0 (callI C58 (t_l, a) r5 [(0, some 0), (1, some 1)] false C58_holds hr5 rfl rfl ?_)))
          refine (And.intro rfl (And.intro (fun h => nomatch h) (And.intro rfl (And.intro rfl (And.intro (And.intro rfl trivial) (And.intro (And.intro rfl (And.intro rfl trivial)) ?_))))))
          refine gdYF ?_
          refine condF ?_
          refine condN hF (fun hF => ?_) (fun hF => ?_)
          · refine gdYF ?_
            obtain ⟨r6, hr6, hF⟩ := bindE hF
            refine Or.inl (And.intro f59_in (callV0 (callI C59 op r6 [] false C59_holds hr6 rfl rfl ?_)))
            refine (And.intro rfl (And.intro (fun h => nomatch h) (And.intro rfl (And.intro rfl (And.intro trivial (And.intro trivial ?_))))))
            refine gdYF ?_
            refine condI hF (fun hF => ?_) (fun hF => ?_)
            · refine gdYT ?_
              refine gdYT ?_
              obtain ⟨r7, hr7, hF⟩ := bindE hF
              refine Or.inl (And.intro f58_in (callV0 (callI C58 (r5.2, b) r7 [(0, some 0), (1, some 1)] false C58_holds hr7 rfl rfl ?_)))
              refine (And.intro rfl (And.intro (fun h => nomatch h) (And.intro rfl (And.intro rfl (And.intro (And.intro rfl trivial) (And.intro (And.intro rfl (And.intro rfl trivial)) ?_))))))
              refine gdYT ?_
              refine gdYF ?_
              refine condT ?_
              refine condF ?_
              refine condI hF (fun hF => ?_) (fun hF => ?_)
              · refine Or.inl ?_
                have hz := someE hF
                subst hz
                refine Exists.intro [] (Exists.intro [] (Exists.intro [] (Exists.intro [] (Exists.intro [(0, some 0), (1, some 1)] (And.intro rfl (And.intro rfl (And.intro rfl (And.intro trivial (And.intro rfl (And.intro rfl trivial))))))))))
              · have hz := someE hF
                subst hz
                refine Exists.intro [] (Exists.intro [] (Exists.intro [] (Exists.intro [] (Exists.intro [(0, some 0), (1, some 1)] (And.intro rfl (And.intro rfl (And.intro rfl (And.intro rfl (And.intro rfl (And.intro (And.intro rfl trivial) (And.intro rfl (And.intro rfl trivial))))))))))))
            · refine gdNT ?_
              refine gdNT ?_
              refine gdNT ?_
              refine gdYF ?_
              refine condF ?_
              refine condF ?_
              refine condF ?_
              have hz := someE hF
              subst hz
              refine Exists.intro [] (Exists.intro [] (Exists.intro [] (Exists.intro [] (Exists.intro [(0, some 0), (1, some 1)] (And.intro rfl (And.intro rfl (And.intro rfl (And.intro rfl (And.intro rfl (And.intro (And.intro rfl trivial) (And.intro rfl (And.intro rfl trivial))))))))))))
          · refine gdNF ?_
            refine gdNF ?_
            refine gdNF ?_
            refine condT ?_
            refine condT ?_
            refine Or.inl ?_
            have hz := someE hF
            subst hz
            refine Exists.intro [] (Exists.intro [] (Exists.intro [] (Exists.intro [] (Exists.intro [(0, some 0), (1, some 1)] (And.intro rfl (And.intro rfl (And.intro rfl (And.intro trivial (And.intro rfl (And.intro rfl trivial))))))))))
        · refine gdNF ?_
          refine gdNF ?_
          refine gdNF ?_
          refine condT ?_
          refine gdNF ?_
          refine gdNF ?_
          refine gdNF ?_
          refine gdNF ?_
          refine condT ?_
          refine condT ?_
          refine Or.inl ?_
          have hz := someE hF
          subst hz
          refine Exists.intro [] (Exists.intro [] (Exists.intro [] (Exists.intro [] (Exists.intro [(0, some 0), (1, some 1)] (And.intro rfl (And.intro rfl (And.intro rfl (And.intro trivial (And.intro rfl (And.intro rfl trivial))))))))))
      · refine gdNF ?_
        refine condT ?_
        refine gdNF ?_
        refine gdNF ?_
        refine gdNF ?_
        refine gdNF ?_
        refine condT ?_
        refine gdNF ?_
        refine gdNF ?_
        refine gdNF ?_
        refine gdNF ?_
        refine condT ?_
        refine condT ?_
        refine Or.inl ?_
        have hz := someE hF
        subst hz
        refine Exists.intro [] (Exists.intro [] (Exists.intro [] (Exists.intro [] (Exists.intro [(0, some 0), (1, some 1)] (And.intro rfl (And.intro rfl (And.intro rfl (And.intro trivial (And.intro rfl (And.intro rfl trivial))))))))))
  · rcases z4 with z4a | z4b
    · dsimp only [sumF] at hF
      refine And.intro ?_ trivial
      refine Or.inl ?_
      refine Or.inl ?_
      obtain ⟨z9, hz9, hF⟩ := bindE hF
      refine Or.inr ⟨[(0, ⟨[(0, .raw false [(.ptr 0 0)]), (1, .dat (.int .i64) op), (2, .dat (.int .i64) a), (3, .dat (.int .i64) b), (4, .dat (.int .i64) k), (12, .raw false [(.ptr 2 0)])], [(0, .cells [(.osl 1)]), (1, .arr 51 (.p (.int .i64) (.p (.int .i64) (.p (.int .i64) (.p (.int .i64) (.p (.sl (.int .i64)) (.sl (.int .i64))))))) z4a), (2, .cells [(.d (.int .i64) op), (.d (.int .i64) a), (.d (.int .i64) (-1 : Int)), (.d (.int .i64) z9), (.c (.slice none 0 0)), (.c (.slice none 0 0))])], 3⟩)], ?_, ?_⟩
      · have hF := hz9
        clear hz9
        unfold f29_j2 at hF
        refine Or.inl ?_
        obtain ⟨r10, hr10, hF⟩ := bindE hF
        refine Or.inl (And.intro f60_in (callV0 (callI C60 op r10 [] false C60_holds hr10 rfl rfl ?_)))
        refine (And.intro rfl (And.intro (fun h => nomatch h) (And.intro rfl (And.intro rfl (And.intro trivial (And.intro trivial ?_))))))
        refine condI hF (fun hF => ?_) (fun hF => ?_)
        · refine Or.inl ?_
          have hz := someE hF
          subst hz
          refine Exists.intro [] (Exists.intro [] (Exists.intro [] (Exists.intro [] (Exists.intro [(0, some 0), (1, some 1), (2, some 2)] (And.intro rfl (And.intro rfl (And.intro rfl (And.intro rfl (And.intro rfl (And.intro (And.intro rfl (And.intro rfl trivial)) (And.intro rfl (And.intro rfl (And.intro rfl trivial)))))))))))))
        · have hz := someE hF
          subst hz
          refine Exists.intro [] (Exists.intro [] (Exists.intro [] (Exists.intro [] (Exists.intro [(0, some 0), (1, some 1), (2, some 2)] (And.intro rfl (And.intro rfl (And.intro rfl (And.intro rfl (And.intro rfl (And.intro (And.intro rfl (And.intro rfl trivial)) (And.intro rfl (And.intro rfl (And.intro rfl trivial)))))))))))))
      · refine And.intro ?_ trivial
        refine Or.inl ?_
        obtain ⟨z12, hz12, hF⟩ := bindE hF
        refine Or.inr ⟨[(0, ⟨[(0, .raw false [(.ptr 0 0)]), (12, .raw false [(.ptr 2 0)]), (13, .dat (.int .i64) z12.1)], [(0, .cells [(.osl 1)]), (1, .arr 51 (.p (.int .i64) (.p (.int .i64) (.p (.int .i64) (.p (.int .i64) (.p (.sl (.int .i64)) (.sl (.int .i64))))))) z4a), (2, .cells [(.d (.int .i64) op), (.d (.int .i64) a), (.d (.int .i64) z12.2.1), (.d (.int .i64) z9), (.osl 3), (.osl 4)]), (3, .arr 3 (.int .i64) z12.2.2.1), (4, .arr 24 (.int .i64) z12.2.2.2)], 5⟩)], ?_, ?_⟩
        · have hF := hz12
          clear hz12
          unfold f29_j3 at hF
          refine Or.inl ?_
          obtain ⟨r13, hr13, hF⟩ := bindE hF
          refine Or.inl (And.intro f59_in (callV0 (callI C59 op r13 [] false C59_holds hr13 rfl rfl ?_)))
          refine (And.intro rfl (And.intro (fun h => nomatch h) (And.intro rfl (And.intro rfl (And.intro trivial (And.intro trivial ?_))))))
          refine condI hF (fun hF => ?_) (fun hF => ?_)
          · refine Or.inl ?_
            refine Or.inl ?_
            refine Exists.intro (.take 0 (.take 1 (.take 2 (.take 3 (.take 4 (.take 5 (.take 6 (.take 7 (.take 8 (.take 9 (.take 10 (.take 11 (.take 12 (.take 13 (.take 14 (.take 15 (.take 16 (.take 17 (.alt 18 (.take 19 (.take 20 (.take 21 (.take 22 (.alt 23 (.take 24 .done) .done))))) .done))))))))))))))))))) (Exists.intro [] (Exists.intro [] (And.intro rfl ?_)))
            refine guardI hF (fun hF => ?_)
            refine guardI hF (fun hF => ?_)
            refine And.intro trivial ?_
            obtain ⟨q11_18, hq11_18, hF⟩ := bindE hF
            refine Or.inl (And.intro f61_in (callV0 (callI C61 (op, ((((((rd (Ty.z (.p (.int .i64) (.p (.int .i64) (.p (.int .i64) (.p (.int .i64) (.p (.sl (.int .i64)) (.sl (.int .i64)))))))) z4a a).2).2).2).2).1, (((((rd (Ty.z (.p (.int .i64) (.p (.int .i64) (.p (.int .i64) (.p (.int .i64) (.p (.sl (.int .i64)) (.sl (.int .i64)))))))) z4a a).2).2).2).2).2), ((((((rd (Ty.z (.p (.int .i64) (.p (.int .i64) (.p (.int .i64) (.p (.int .i64) (.p (.sl (.int .i64)) (.sl (.int .i64)))))))) z4a b).2).2).2).2).1, (((((rd (Ty.z (.p (.int .i64) (.p (.int .i64) (.p (.int .i64) (.p (.int .i64) (.p (.sl (.int .i64)) (.sl (.int .i64)))))))) z4a b).2).2).2).2).2), k) q11_18 [] false C61_holds hq11_18 rfl rfl ?_)))
            refine (And.intro rfl (And.intro rfl (And.intro rfl (And.intro rfl (And.intro rfl (And.intro rfl (And.intro (fun h => nomatch h) (And.intro rfl (And.intro rfl (And.intro trivial (And.intro trivial ?_)))))))))))
            refine And.intro trivial ?_
            refine Or.inl ?_
            have hz := someE hF
            subst hz
            refine Exists.intro [] (Exists.intro [] (Exists.intro [] (Exists.intro [] (Exists.intro [(0, some 0), (1, some 1), (2, some 2), (3, some 3), (4, some 4)] (And.intro rfl (And.intro rfl (And.intro (And.intro rfl (And.intro rfl trivial)) (And.intro rfl (And.intro rfl (And.intro rfl (And.intro rfl (And.intro rfl trivial))))))))))))
          · refine guardI hF (fun hF => ?_)
            obtain ⟨q11_24, hq11_24, hF⟩ := bindE hF
            refine Or.inl (And.intro f62_in (callV0 (callI C62 (op, ((((((rd (Ty.z (.p (.int .i64) (.p (.int .i64) (.p (.int .i64) (.p (.int .i64) (.p (.sl (.int .i64)) (.sl (.int .i64)))))))) z4a a).2).2).2).2).1, (((((rd (Ty.z (.p (.int .i64) (.p (.int .i64) (.p (.int .i64) (.p (.int .i64) (.p (.sl (.int .i64)) (.sl (.int .i64)))))))) z4a a).2).2).2).2).2), k) q11_24 [] false C62_holds hq11_24 rfl rfl ?_)))
            refine (And.intro rfl (And.intro rfl (And.intro rfl (And.intro rfl (And.intro (fun h => nomatch h) (And.intro rfl (And.intro rfl (And.intro trivial (And.intro trivial ?_)))))))))
            refine Or.inl ?_
            have hz := someE hF
            subst hz
            refine Exists.intro [] (Exists.intro [] (Exists.intro [] (Exists.intro [] (Exists.intro [(0, some 0), (1, some 1), (2, some 2), (3, some 3), (4, some 4)] (And.intro rfl (And.intro rfl (And.intro (And.intro rfl (And.intro rfl trivial)) (And.intro rfl (And.intro rfl (And.intro rfl (And.intro rfl (And.intro rfl trivial))))))))))))
        · refine And.intro ?_ trivial
          refine Or.inl ?_
          refine Or.inl ?_
          refine condI hF (fun hF => ?_) (fun hF => ?_)
          · refine Or.inl ?_
            have hy := someE hF
            subst hy
            refine And.intro rfl (Exists.intro [] (Exists.intro [] (Exists.intro [] (Exists.intro [] (Exists.intro [(0, some 0), (2, some 1)] (And.intro rfl (And.intro rfl (And.intro rfl (And.intro trivial (And.intro rfl (And.intro rfl trivial)))))))))))
          · refine Or.inl ?_
            obtain ⟨r14, hr14, hF⟩ := bindE hF
            refine Or.inl (And.intro f56_in (callV0 (callI C56 (z4a, (op, a, z12.2.1, z9, z12.2.2.1, z12.2.2.2)) r14 [(0, some 0), (1, some 1)] false C56_holds hr14 rfl rfl ?_)))
            refine (And.intro rfl (And.intro rfl (And.intro (fun h => nomatch h) (And.intro rfl (And.intro rfl (And.intro (And.intro rfl trivial) (And.intro (And.intro rfl (And.intro rfl trivial)) ?_)))))))
            have hy := someE hF
            subst hy
            refine And.intro rfl (Exists.intro [] (Exists.intro [] (Exists.intro [] (Exists.intro [] (Exists.intro [(0, some 0), (2, some 7)] (And.intro rfl (And.intro rfl (And.intro rfl (And.intro trivial (And.intro rfl (And.intro rfl trivial)))))))))))
    · dsimp only [sumF] at hF
      refine And.intro ?_ trivial
      have hy := someE hF
      subst hy
      refine And.intro rfl (Exists.intro [] (Exists.intro [] (Exists.intro [] (Exists.intro [] (Exists.intro [(0, some 0), (2, some 1)] (And.intro rfl (And.intro rfl (And.intro rfl (And.intro trivial (And.intro rfl (And.intro rfl trivial)))))))))))
theorem C29_holds : C29.Holds Try.prog 29 := holds_of_vc tab_ok mixed (fn := Try.f29) (by kernel_rfl) rfl C29 (fun x y hF => C29_vc x.1 x.2.1 x.2.2.1 x.2.2.2.1 x.2.2.2.2 y hF)
theorem f29_in : ∃ fn, Try.prog.funcs[29]? = some fn ∧ fn.body.isSome = true ∧ (fn.name == "runtime.NumGoroutine") = false := ⟨Try.f29, by kernel_rfl, by kernel_rfl, by kernel_rfl⟩
end Go.Proofs
namespace Go.Proofs
open Go.AM
-- (*carousel/tape.Tape).At
def f31 (t_l : List (Int × Int × Int × Int × (List Int) × (List Int))) (n : Int) : Option (Int × Int × Int × Int × Bool × (List Int) × (List Int) × (List (Int × Int × Int × Int × (List Int) × (List Int)))) :=
  bindF (f58 t_l n) fun r1 =>
  bif (!r1.1) then
    some ((0 : Int), (0 : Int), (0 : Int), (0 : Int), false, [], [], r1.2)
  else
    guardF (0 ≤ n ∧ n < (List.length r1.2 : Int)) <|
    bindF (f57 ((((((rd (Ty.z (.p (.int .i64) (.p (.int .i64) (.p (.int .i64) (.p (.int .i64) (.p (.sl (.int .i64)) (.sl (.int .i64)))))))) r1.2 n).2).2).2).2).1, (((((rd (Ty.z (.p (.int .i64) (.p (.int .i64) (.p (.int .i64) (.p (.int .i64) (.p (.sl (.int .i64)) (.sl (.int .i64)))))))) r1.2 n).2).2).2).2).2)) fun r2 =>
    some ((rd (Ty.z (.p (.int .i64) (.p (.int .i64) (.p (.int .i64) (.p (.int .i64) (.p (.sl (.int .i64)) (.sl (.int .i64)))))))) r1.2 n).1, ((rd (Ty.z (.p (.int .i64) (.p (.int .i64) (.p (.int .i64) (.p (.int .i64) (.p (.sl (.int .i64)) (.sl (.int .i64)))))))) r1.2 n).2).1, (((rd (Ty.z (.p (.int .i64) (.p (.int .i64) (.p (.int .i64) (.p (.int .i64) (.p (.sl (.int .i64)) (.sl (.int .i64)))))))) r1.2 n).2).2).1, ((((rd (Ty.z (.p (.int .i64) (.p (.int .i64) (.p (.int .i64) (.p (.int .i64) (.p (.sl (.int .i64)) (.sl (.int .i64)))))))) r1.2 n).2).2).2).1, true, r2.1, r2.2, r1.2)
def C31 : Con where
  X := (List (Int × Int × Int × Int × (List Int) × (List Int))) × Int
  Y := Int × Int × Int × Int × Bool × (List Int) × (List Int) × (List (Int × Int × Int × Int × (List Int) × (List Int)))
  e := 2
  args x := [.raw false [(.ptr 0 0)], .dat (.int .i64) x.2]
  hin x := [(0, .cells [(.osl 1)]), (1, .arr 51 (.p (.int .i64) (.p (.int .i64) (.p (.int .i64) (.p (.int .i64) (.p (.sl (.int .i64)) (.sl (.int .i64))))))) x.1)]
  F x := f31 x.1 x.2
  ret y := [.raw true [(.d (.int .i64) y.1), (.d (.int .i64) y.2.1), (.d (.int .i64) y.2.2.1), (.d (.int .i64) y.2.2.2.1), (.osl 2), (.osl 3)], .dat .bool y.2.2.2.2.1]
  hout y := [(0, .cells [(.osl 1)]), (1, .arr 51 (.p (.int .i64) (.p (.int .i64) (.p (.int .i64) (.p (.int .i64) (.p (.sl (.int .i64)) (.sl (.int .i64))))))) y.2.2.2.2.2.2.2), (2, .arr 3 (.int .i64) y.2.2.2.2.2.1), (3, .arr 24 (.int .i64) y.2.2.2.2.2.2.1)]
  nout := 4
theorem C31_vc (t_l : List (Int × Int × Int × Int × (List Int) × (List Int))) (n : Int) (y : Int × Int × Int × Int × Bool × (List Int) × (List Int) × (List (Int × Int × Int × Int × (List Int) × (List Int)))) (hF : f31 t_l n = some y) : vc Try.prog tab Try.f31.ntmps 2 (match Try.f31.body with | some c => c | none => .skip) (retK tab C31 Try.f31.results.toList y) (C31.shIn (t_l, n)).st := by
  unfold f31 at hF
  refine Or.inl ?_
  refine Or.inl ?_
  refine Or.inl ?_
  obtain ⟨r1, hr1, hF⟩ := bindE hF
  refine Or.inl (And.intro f58_in (callV0 (callI C58 (t_l, n) r1 [(0, some 0), (1, some 1)] false C58_holds hr1 rfl rfl ?_)))
  refine (And.intro rfl (And.intro (fun h => nomatch h) (And.intro rfl (And.intro rfl (And.intro (And.intro rfl trivial) (And.intro (And.intro rfl (And.intro rfl trivial)) ?_))))))
  refine condI hF (fun hF => ?_) (fun hF => ?_)
  · refine Or.inl ?_
    refine Or.inl ?_
    have hy := someE hF
    subst hy
    refine And.intro rfl (Exists.intro [] (Exists.intro [] (Exists.intro [] (Exists.intro [] (Exists.intro [(0, some 0), (1, some 1), (2, none), (3, none)] (And.intro rfl (And.intro rfl (And.intro (And.intro rfl trivial) (And.intro rfl (And.intro rfl (And.intro rfl (And.intro rfl trivial))))))))))))
  · refine Or.inl ?_
    refine guardI hF (fun hF => ?_)
    refine Or.inl ?_
    refine Or.inl ?_
    obtain ⟨r2, hr2, hF⟩ := bindE hF
    refine Or.inl (And.intro f57_in (callV0 (callI C57 ((((((rd (Ty.z (.p (.int .i64) (.p (.int .i64) (.p (.int .i64) (.p (.int .i64) (.p (.sl (.int .i64)) (.sl (.int .i64)))))))) r1.2 n).2).2).2).2).1, (((((rd (Ty.z (.p (.int .i64) (.p (.int .i64) (.p (.int .i64) (.p (.int .i64) (.p (.sl (.int .i64)) (.sl (.int .i64)))))))) r1.2 n).2).2).2).2).2) r2 [] false C57_holds hr2 rfl rfl ?_)))
    refine (And.intro rfl (And.intro rfl (And.intro (fun h => nomatch h) (And.intro rfl (And.intro rfl (And.intro trivial (And.intro trivial ?_)))))))
    refine Or.inl ?_
    refine Or.inl ?_
    refine Or.inl ?_
    have hy := someE hF
    subst hy
    refine And.intro rfl (Exists.intro [] (Exists.intro [] (Exists.intro [] (Exists.intro [] (Exists.intro [(0, some 0), (1, some 1), (2, some 6), (3, some 7)] (And.intro rfl (And.intro rfl (And.intro (And.intro rfl trivial) (And.intro rfl (And.intro rfl (And.intro rfl (And.intro rfl trivial))))))))))))
theorem C31_holds : C31.Holds Try.prog 31 := holds_of_vc tab_ok mixed (fn := Try.f31) (by kernel_rfl) rfl C31 (fun x y hF => C31_vc x.1 x.2 y hF)
theorem f31_in : ∃ fn, Try.prog.funcs[31]? = some fn ∧ fn.body.isSome = true ∧ (fn.name == "runtime.NumGoroutine") = false := ⟨Try.f31, by kernel_rfl, by kernel_rfl, by kernel_rfl⟩
end Go.Proofs
namespace Go.Proofs
open Go.AM
-- (*carousel/tape.Tape).Value
def f32 (t_l : List (Int × Int × Int × Int × (List Int) × (List Int))) (n : Int) : Option (Bool × (List Int) × (List Int) × (List (Int × Int × Int × Int × (List Int) × (List Int)))) :=
  bindF (f31 t_l n) fun r1 =>
  some (r1.2.2.2.2.1, r1.2.2.2.2.2.1, r1.2.2.2.2.2.2.1, r1.2.2.2.2.2.2.2)
def C32 : Con where
  X := (List (Int × Int × Int × Int × (List Int) × (List Int))) × Int
  Y := Bool × (List Int) × (List Int) × (List (Int × Int × Int × Int × (List Int) × (List Int)))
  e := 2
  args x := [.raw false [(.ptr 0 0)], .dat (.int .i64) x.2]
  hin x := [(0, .cells [(.osl 1)]), (1, .arr 51 (.p (.int .i64) (.p (.int .i64) (.p (.int .i64) (.p (.int .i64) (.p (.sl (.int .i64)) (.sl (.int .i64))))))) x.1)]
  F x := f32 x.1 x.2
  ret y := [.raw true [(.osl 2), (.osl 3)], .dat .bool y.1]
  hout y := [(0, .cells [(.osl 1)]), (1, .arr 51 (.p (.int .i64) (.p (.int .i64) (.p (.int .i64) (.p (.int .i64) (.p (.sl (.int .i64)) (.sl (.int .i64))))))) y.2.2.2), (2, .arr 3 (.int .i64) y.2.1), (3, .arr 24 (.int .i64) y.2.2.1)]
  nout := 4
theorem C32_vc (t_l : List (Int × Int × Int × Int × (List Int) × (List Int))) (n : Int) (y : Bool × (List Int) × (List Int) × (List (Int × Int × Int × Int × (List Int) × (List Int)))) (hF : f32 t_l n = some y) : vc Try.prog tab Try.f32.ntmps 2 (match Try.f32.body with | some c => c | none => .skip) (retK tab C32 Try.f32.results.toList y) (C32.shIn (t_l, n)).st := by
  unfold f32 at hF
  refine Or.inl ?_
  refine Or.inl ?_
  obtain ⟨r1, hr1, hF⟩ := bindE hF
  refine Or.inl (And.intro f31_in (callV0 (callI C31 (t_l, n) r1 [(0, some 0), (1, some 1)] false C31_holds hr1 rfl rfl ?_)))
  refine (And.intro rfl (And.intro (fun h => nomatch h) (And.intro rfl (And.intro rfl (And.intro (And.intro rfl trivial) (And.intro (And.intro rfl (And.intro rfl trivial)) ?_))))))
  refine Or.inl ?_
  refine Or.inl ?_
  refine Or.inl ?_
  have hy := someE hF
  subst hy
  refine And.intro rfl (Exists.intro [] (Exists.intro [] (Exists.intro [] (Exists.intro [] (Exists.intro [(0, some 0), (1, some 1), (2, some 5), (3, some 6)] (And.intro rfl (And.intro rfl (And.intro (And.intro rfl trivial) (And.intro rfl (And.intro rfl (And.intro rfl (And.intro rfl trivial))))))))))))
theorem C32_holds : C32.Holds Try.prog 32 := holds_of_vc tab_ok mixed (fn := Try.f32) (by kernel_rfl) rfl C32 (fun x y hF => C32_vc x.1 x.2 y hF)
theorem f32_in : ∃ fn, Try.prog.funcs[32]? = some fn ∧ fn.body.isSome = true ∧ (fn.name == "runtime.NumGoroutine") = false := ⟨Try.f32, by kernel_rfl, by kernel_rfl, by kernel_rfl⟩
end Go.Proofs
namespace Go.Proofs
open Go.AM
-- (*carousel/tape.Tape).Len
def f33 (t_l : List (Int × Int × Int × Int × (List Int) × (List Int))) : Option (Int × (List (Int × Int × Int × Int × (List Int) × (List Int)))) :=
  some ((List.length t_l : Int), t_l)
def C33 : Con where
  X := List (Int × Int × Int × Int × (List Int) × (List Int))
  Y := Int × (List (Int × Int × Int × Int × (List Int) × (List Int)))
  e := 2
  args x := [.raw false [(.ptr 0 0)]]
  hin x := [(0, .cells [(.osl 1)]), (1, .arr 51 (.p (.int .i64) (.p (.int .i64) (.p (.int .i64) (.p (.int .i64) (.p (.sl (.int .i64)) (.sl (.int .i64))))))) x)]
  F x := f33 x
  ret y := [.dat (.int .i64) y.1]
  hout y := [(0, .cells [(.osl 1)]), (1, .arr 51 (.p (.int .i64) (.p (.int .i64) (.p (.int .i64) (.p (.int .i64) (.p (.sl (.int .i64)) (.sl (.int .i64))))))) y.2)]
  nout := 2
theorem C33_vc (t_l : List (Int × Int × Int × Int × (List Int) × (List Int))) (y : Int × (List (Int × Int × Int × Int × (List Int) × (List Int)))) (hF : f33 t_l = some y) : vc Try.prog tab Try.f33.ntmps 2 (match Try.f33.body with | some c => c | none => .skip) (retK tab C33 Try.f33.results.toList y) (C33.shIn t_l).st := by
  unfold f33 at hF
  refine Or.inl ?_
  refine Or.inl ?_
  have hy := someE hF
  subst hy
  refine And.intro rfl (Exists.intro [] (Exists.intro [] (Exists.intro [] (Exists.intro [] (Exists.intro [(0, some 0), (1, some 1)] (And.intro rfl (And.intro rfl (And.intro trivial (And.intro rfl (And.intro rfl trivial))))))))))
theorem C33_holds : C33.Holds Try.prog 33 := holds_of_vc tab_ok mixed (fn := Try.f33) (by kernel_rfl) rfl C33 (fun x y hF => C33_vc x y hF)
theorem f33_in : ∃ fn, Try.prog.funcs[33]? = some fn ∧ fn.body.isSome = true ∧ (fn.name == "runtime.NumGoroutine") = false := ⟨Try.f33, by kernel_rfl, by kernel_rfl, by kernel_rfl⟩
end Go.Proofs
