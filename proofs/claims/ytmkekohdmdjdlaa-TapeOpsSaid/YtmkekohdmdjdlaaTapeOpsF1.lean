import Derived.Test.YtmkekohdmdjdlaaTapeOpsF0
set_option linter.unusedVariables false
set_option maxRecDepth 100000
set_option maxHeartbeats 8000000
namespace Go.Proofs
open Go.AM
-- carousel/wide.Fix
def f53_j3 (a : Int × Int) : Option Bool :=
  bif (decide (a.1 > (0 : Int))) then
    some true
  else
    bif (a.1 == (0 : Int)) then
      some (decide (a.2 ≥ (9223372036854775808 : Int)))
    else
      some false
def f53_j2 (a : Int × Int) : Option (Sum Unit Int) :=
  bindF (f53_j3 a) fun z3 =>
  bif z3 then
    some (Sum.inr (9223372036854775807 : Int))
  else
    bif (decide (a.1 < (-1 : Int))) then
      some (Sum.inr (-9223372036854775808 : Int))
    else
      bif (a.1 == (-1 : Int)) then
        bif (decide (a.2 < (9223372036854775808 : Int))) then
          some (Sum.inr (-9223372036854775808 : Int))
        else
          some (Sum.inl ())
      else
        some (Sum.inl ())
def f53 (a : Int × Int) : Option Int :=
  bindF (f53_j2 a) fun z2 =>
  sumF z2 (fun z2a =>
    some (IntKind.i64.wrap a.2)) (fun z2b =>
    some z2b)
def C53 : Con where
  X := Int × Int
  Y := Int
  e := 0
  args x := [.dat (.p (.int .i64) (.int .u64)) x]
  hin x := []
  F x := f53 x
  ret y := [.dat (.int .i64) y]
  hout y := []
  nout := 0
theorem C53_vc (a : Int × Int) (y : Int) (hF : f53 a = some y) : vc Try.prog tab Try.f53.ntmps 0 (match Try.f53.body with | some c => c | none => .skip) (retK tab C53 Try.f53.results.toList y) (C53.shIn a).st := by
  unfold f53 at hF
  refine Or.inl ?_
  obtain ⟨z2, hz2, hF⟩ := bindE hF
  refine Or.inr ⟨Sum.elim (fun z2a => [(0, ⟨[(1, .raw false [(.ptr 0 0)])], [(0, .cells [(.d (.int .i64) a.1), (.d (.int .u64) a.2)])], 1⟩)]) (fun z2b => [(1, ⟨[(2, .dat (.int .i64) z2b)], [], 0⟩)]) z2, ?_, ?_⟩
  · have hF := hz2
    clear hz2
    unfold f53_j2 at hF
    obtain ⟨z3, hz3, hF⟩ := bindE hF
    refine Or.inr ⟨[(0, ⟨[(1, .raw false [(.ptr 0 0)]), (3, .dat .bool z3)], [(0, .cells [(.d (.int .i64) a.1), (.d (.int .u64) a.2)])], 1⟩)], ?_, ?_⟩
    · have hF := hz3
      clear hz3
      unfold f53_j3 at hF
      refine condN hF (fun hF => ?_) (fun hF => ?_)
      · refine gdYF ?_
        refine gdYF ?_
        refine gdYF ?_
        refine condI hF (fun hF => ?_) (fun hF => ?_)
        · refine gdYT ?_
          refine gdYT ?_
          refine gdYF ?_
          refine condT ?_
          refine condF ?_
          have hz := someE hF
          subst hz
          refine Exists.intro [] (Exists.intro [] (Exists.intro [] (Exists.intro [] (Exists.intro [(0, some 0)] (And.intro rfl (And.intro rfl (And.intro (And.intro rfl trivial) (And.intro rfl trivial))))))))
        · refine gdNT ?_
          refine gdNT ?_
          refine gdYF ?_
          refine condF ?_
          refine condF ?_
          have hz := someE hF
          subst hz
          refine Exists.intro [] (Exists.intro [] (Exists.intro [] (Exists.intro [] (Exists.intro [(0, some 0)] (And.intro rfl (And.intro rfl (And.intro (And.intro rfl trivial) (And.intro rfl trivial))))))))
      · refine gdNF ?_
        refine gdNF ?_
        refine gdNF ?_
        refine gdNF ?_
        refine condT ?_
        have hz := someE hF
        subst hz
        refine Exists.intro [] (Exists.intro [] (Exists.intro [] (Exists.intro [] (Exists.intro [(0, some 0)] (And.intro rfl (And.intro rfl (And.intro (And.intro rfl trivial) (And.intro rfl trivial))))))))
    · refine And.intro ?_ trivial
      refine condI hF (fun hF => ?_) (fun hF => ?_)
      · refine Or.inl ?_
        have hz := someE hF
        subst hz
        refine Exists.intro [] (Exists.intro [] (Exists.intro [] (Exists.intro [] (Exists.intro [] (And.intro rfl (And.intro rfl (And.intro trivial trivial)))))))
      · refine Or.inl ?_
        refine condN hF (fun hF => ?_) (fun hF => ?_)
        · refine gdYF ?_
          refine gdYF ?_
          refine gdYF ?_
          refine condI hF (fun hF => ?_) (fun hF => ?_)
          · refine gdYT ?_
            refine gdYT ?_
            refine gdYF ?_
            refine condT ?_
            refine condF ?_
            refine condI hF (fun hF => ?_) (fun hF => ?_)
            · refine Or.inl ?_
              have hz := someE hF
              subst hz
              refine Exists.intro [] (Exists.intro [] (Exists.intro [] (Exists.intro [] (Exists.intro [] (And.intro rfl (And.intro rfl (And.intro trivial trivial)))))))
            · have hz := someE hF
              subst hz
              refine Exists.intro [] (Exists.intro [] (Exists.intro [] (Exists.intro [] (Exists.intro [(0, some 0)] (And.intro rfl (And.intro (And.intro rfl trivial) (And.intro rfl trivial)))))))
          · refine gdNT ?_
            refine gdNT ?_
            refine gdYF ?_
            refine condF ?_
            refine condF ?_
            refine condF ?_
            have hz := someE hF
            subst hz
            refine Exists.intro [] (Exists.intro [] (Exists.intro [] (Exists.intro [] (Exists.intro [(0, some 0)] (And.intro rfl (And.intro (And.intro rfl trivial) (And.intro rfl trivial)))))))
        · refine gdNF ?_
          refine gdNF ?_
          refine gdNF ?_
          refine gdNF ?_
          refine condT ?_
          refine condT ?_
          refine Or.inl ?_
          have hz := someE hF
          subst hz
          refine Exists.intro [] (Exists.intro [] (Exists.intro [] (Exists.intro [] (Exists.intro [] (And.intro rfl (And.intro rfl (And.intro trivial trivial)))))))
  · rcases z2 with z2a | z2b
    · dsimp only [sumF] at hF
      refine And.intro ?_ trivial
      refine Or.inl ?_
      have hy := someE hF
      subst hy
      refine And.intro rfl (Exists.intro [] (Exists.intro [] (Exists.intro [] (Exists.intro [] (Exists.intro [] (And.intro rfl (And.intro rfl (And.intro trivial trivial))))))))
    · dsimp only [sumF] at hF
      refine And.intro ?_ trivial
      have hy := someE hF
      subst hy
      refine And.intro rfl (Exists.intro [] (Exists.intro [] (Exists.intro [] (Exists.intro [] (Exists.intro [] (And.intro rfl (And.intro rfl (And.intro trivial trivial))))))))
theorem C53_holds : C53.Holds Try.prog 53 := holds_of_vc tab_ok mixed (fn := Try.f53) (by kernel_rfl) rfl C53 (fun x y hF => C53_vc x y hF)
theorem f53_in : ∃ fn, Try.prog.funcs[53]? = some fn ∧ fn.body.isSome = true ∧ (fn.name == "runtime.NumGoroutine") = false := ⟨Try.f53, by kernel_rfl, by kernel_rfl, by kernel_rfl⟩
end Go.Proofs
namespace Go.Proofs
open Go.AM
-- (*carousel/wide.Acc).Fix
def f37 (s_top : Int) (s_low_Hi : Int) (s_low_Lo : Int) (n : Int) : Option (Int × Int × Int × Int) :=
  bif (s_top == (Int.fdiv s_low_Hi (2 ^ min (Int.toNat (63 : Int)) (IntKind.bits IntKind.i64)))) then
    bindF (f68 (s_low_Hi, s_low_Lo) n) fun q1_11 =>
    bindF (f53 (q1_11.1, q1_11.2)) fun r1 =>
    some (r1, s_top, s_low_Hi, s_low_Lo)
  else
    bif (decide (s_top < (0 : Int))) then
      some ((-9223372036854775808 : Int), s_top, s_low_Hi, s_low_Lo)
    else
      some ((9223372036854775807 : Int), s_top, s_low_Hi, s_low_Lo)
def C37 : Con where
  X := Int × Int × Int × Int
  Y := Int × Int × Int × Int
  e := 1
  args x := [.raw false [(.ptr 0 0)], .dat (.int .i64) x.2.2.2]
  hin x := [(0, .cells [(.d (.int .i64) x.1), (.d (.int .i64) x.2.1), (.d (.int .u64) x.2.2.1)])]
  F x := f37 x.1 x.2.1 x.2.2.1 x.2.2.2
  ret y := [.dat (.int .i64) y.1]
  hout y := [(0, .cells [(.d (.int .i64) y.2.1), (.d (.int .i64) y.2.2.1), (.d (.int .u64) y.2.2.2)])]
  nout := 1
theorem C37_vc (s_top : Int) (s_low_Hi : Int) (s_low_Lo : Int) (n : Int) (y : Int × Int × Int × Int) (hF : f37 s_top s_low_Hi s_low_Lo n = some y) : vc Try.prog tab Try.f37.ntmps 1 (match Try.f37.body with | some c => c | none => .skip) (retK tab C37 Try.f37.results.toList y) (C37.shIn (s_top, s_low_Hi, s_low_Lo, n)).st := by
  unfold f37 at hF
  refine Or.inl ?_
  refine Or.inl ?_
  refine Or.inl ?_
  refine Exists.intro (.take 0 (.take 1 (.take 2 (.take 3 (.take 4 (.take 5 (.take 6 (.take 7 (.take 8 (.take 9 (.take 10 (.take 11 .done)))))))))))) (Exists.intro [] (Exists.intro [] (And.intro rfl ?_)))
  refine And.intro (by decide) ?_
  refine condI hF (fun hF => ?_) (fun hF => ?_)
  · refine Or.inl ?_
    obtain ⟨q1_11, hq1_11, hF⟩ := bindE hF
    refine Or.inl (And.intro f68_in (callV0 (callI C68 ((s_low_Hi, s_low_Lo), n) q1_11 [] false C68_holds hq1_11 rfl rfl ?_)))
    refine (And.intro rfl (And.intro rfl (And.intro rfl (And.intro (fun h => nomatch h) (And.intro rfl (And.intro rfl (And.intro trivial (And.intro trivial ?_))))))))
    obtain ⟨r1, hr1, hF⟩ := bindE hF
    refine Or.inl (And.intro f53_in (callV0 (callI C53 (q1_11.1, q1_11.2) r1 [] false C53_holds hr1 rfl rfl ?_)))
    refine (And.intro rfl (And.intro rfl (And.intro (fun h => nomatch h) (And.intro rfl (And.intro rfl (And.intro trivial (And.intro trivial ?_)))))))
    have hy := someE hF
    subst hy
    refine And.intro rfl (Exists.intro [] (Exists.intro [] (Exists.intro [] (Exists.intro [] (Exists.intro [(0, some 0)] (And.intro rfl (And.intro rfl (And.intro trivial (And.intro rfl trivial)))))))))
  · refine Or.inl ?_
    refine condI hF (fun hF => ?_) (fun hF => ?_)
    · refine Or.inl ?_
      have hy := someE hF
      subst hy
      refine And.intro rfl (Exists.intro [] (Exists.intro [] (Exists.intro [] (Exists.intro [] (Exists.intro [(0, some 0)] (And.intro rfl (And.intro rfl (And.intro trivial (And.intro rfl trivial)))))))))
    · refine Or.inl ?_
      have hy := someE hF
      subst hy
      refine And.intro rfl (Exists.intro [] (Exists.intro [] (Exists.intro [] (Exists.intro [] (Exists.intro [(0, some 0)] (And.intro rfl (And.intro rfl (And.intro trivial (And.intro rfl trivial)))))))))
theorem C37_holds : C37.Holds Try.prog 37 := holds_of_vc tab_ok mixed (fn := Try.f37) (by kernel_rfl) rfl C37 (fun x y hF => C37_vc x.1 x.2.1 x.2.2.1 x.2.2.2 y hF)
theorem f37_in : ∃ fn, Try.prog.funcs[37]? = some fn ∧ fn.body.isSome = true ∧ (fn.name == "runtime.NumGoroutine") = false := ⟨Try.f37, by kernel_rfl, by kernel_rfl, by kernel_rfl⟩
end Go.Proofs
namespace Go.Proofs
open Go.AM
-- carousel/matm.Dot
def f14_l1 (a : List Int) (b : List Int) (go : (Int × Int × Int × Int) → Option (Int × Int × Int)) (v12 : Int) (c0_0 : Int) (c0_1 : Int) (c0_2 : Int) : Option (Int × Int × Int) :=
  bif (decide (v12 < (if (List.length b : Int) < (List.length a : Int) then (List.length b : Int) else (List.length a : Int)))) then
    guardF (0 ≤ v12 ∧ v12 < (List.length a : Int)) <|
    guardF (0 ≤ v12 ∧ v12 < (List.length b : Int)) <|
    bindF (f36 c0_0 c0_1 c0_2 (rd (0 : Int) a v12) (rd (0 : Int) b v12)) fun q5_8 =>
    go ((IntKind.i64.wrap (v12 + (1 : Int))), q5_8.1, q5_8.2.1, q5_8.2.2)
  else
    some (c0_0, c0_1, c0_2)
def f14 (a : List Int) (b : List Int) : Option Int :=
  bindF (loopF (fun go x => f14_l1 a b go x.1 x.2.1 x.2.2.1 x.2.2.2) fuelN ((0 : Int), (0 : Int), (0 : Int), (0 : Int))) fun z1 =>
  bindF (f37 z1.1 z1.2.1 z1.2.2 (32 : Int)) fun r2 =>
  some r2.1
def C14 : Con where
  X := (List Int) × (List Int)
  Y := Int
  e := 0
  args x := [.dat (.sl (.int .i64)) x.1, .dat (.sl (.int .i64)) x.2]
  hin x := []
  F x := f14 x.1 x.2
  ret y := [.dat (.int .i64) y]
  hout y := []
  nout := 0
theorem C14_vc (a : List Int) (b : List Int) (y : Int) (hF : f14 a b = some y) : vc Try.prog tab Try.f14.ntmps 0 (match Try.f14.body with | some c => c | none => .skip) (retK tab C14 Try.f14.results.toList y) (C14.shIn (a, b)).st := by
  unfold f14 at hF
  refine Or.inl ?_
  refine Or.inl ?_
  refine Or.inl ?_
  refine Or.inl ?_
  obtain ⟨z1, hz1, hF⟩ := bindE hF
  refine loopI (Int × Int × Int × Int) (Int × Int × Int) (fun x => ⟨[(0, .dat (.sl (.int .i64)) a), (1, .dat (.sl (.int .i64)) b), (5, .raw false [(.ptr 0 0)]), (11, .dat (.int .i64) (if (List.length b : Int) < (List.length a : Int) then (List.length b : Int) else (List.length a : Int))), (12, .dat (.int .i64) x.1)], [(0, .cells [(.d (.int .i64) x.2.1), (.d (.int .i64) x.2.2.1), (.d (.int .u64) x.2.2.2)])], 1⟩) (fun z => [(2, ⟨[(5, .raw false [(.ptr 0 0)])], [(0, .cells [(.d (.int .i64) z.1), (.d (.int .i64) z.2.1), (.d (.int .u64) z.2.2)])], 1⟩)]) (loopF (fun go x => f14_l1 a b go x.1 x.2.1 x.2.2.1 x.2.2.2)) fuelN ((0 : Int), (0 : Int), (0 : Int), (0 : Int)) z1 (And.intro hz1 (And.intro (Exists.intro [] (Exists.intro [] (Exists.intro [] (Exists.intro [] (Exists.intro [(0, some 0)] (And.intro rfl (And.intro rfl (And.intro rfl (And.intro rfl (And.intro rfl (And.intro (And.intro rfl trivial) (And.intro rfl trivial)))))))))))) (And.intro (fun _ _ h => loopZ h) (And.intro (fun m => curI (fun v12 => curI (fun c0_0 => curI (fun c0_1 => fun c0_2 z hF => ?_)))) ?_))))
  · have hF : f14_l1 a b (loopF (fun go x => f14_l1 a b go x.1 x.2.1 x.2.2.1 x.2.2.2) m) v12 c0_0 c0_1 c0_2 = some z := hF
    unfold f14_l1 at hF
    refine Or.inl ?_
    refine Or.inl ?_
    refine condI hF (fun hF => ?_) (fun hF => ?_)
    · refine Or.inl ?_
      refine Or.inl ?_
      refine Exists.intro (.take 0 (.take 1 (.take 2 (.take 3 (.take 4 (.take 5 (.take 6 (.take 7 (.alt 8 .done .done))))))))) (Exists.intro [] (Exists.intro [] (And.intro rfl ?_)))
      refine guardI hF (fun hF => ?_)
      refine guardI hF (fun hF => ?_)
      refine And.intro trivial ?_
      obtain ⟨q5_8, hq5_8, hF⟩ := bindE hF
      refine Or.inl (And.intro f36_in (callV0 (callI C36 (c0_0, c0_1, c0_2, (rd (0 : Int) a v12), (rd (0 : Int) b v12)) q5_8 [(0, some 0)] false C36_holds hq5_8 rfl rfl ?_)))
      refine (And.intro rfl (And.intro rfl (And.intro (fun h => nomatch h) (And.intro rfl (And.intro rfl (And.intro (And.intro rfl trivial) (And.intro (And.intro rfl trivial) ?_)))))))
      refine Exists.intro ((IntKind.i64.wrap (v12 + (1 : Int))), q5_8.1, q5_8.2.1, q5_8.2.2) (And.intro hF (Exists.intro [] (Exists.intro [] (Exists.intro [] (Exists.intro [] (Exists.intro [(0, some 0)] (And.intro rfl (And.intro rfl (And.intro rfl (And.intro rfl (And.intro rfl (And.intro (And.intro rfl trivial) (And.intro rfl trivial)))))))))))))
    · have hz := someE hF
      subst hz
      refine Exists.intro [] (Exists.intro [] (Exists.intro [] (Exists.intro [] (Exists.intro [(0, some 0)] (And.intro rfl (And.intro (And.intro rfl trivial) (And.intro rfl trivial)))))))
  · refine And.intro ?_ trivial
    refine Or.inl ?_
    obtain ⟨r2, hr2, hF⟩ := bindE hF
    refine Or.inl (And.intro f37_in (callV0 (callI C37 (z1.1, z1.2.1, z1.2.2, (32 : Int)) r2 [(0, some 0)] false C37_holds hr2 rfl rfl ?_)))
    refine (And.intro rfl (And.intro (fun h => nomatch h) (And.intro rfl (And.intro rfl (And.intro (And.intro rfl trivial) (And.intro (And.intro rfl trivial) ?_))))))
    have hy := someE hF
    subst hy
    refine And.intro rfl (Exists.intro [] (Exists.intro [] (Exists.intro [] (Exists.intro [] (Exists.intro [] (And.intro rfl (And.intro rfl (And.intro trivial trivial))))))))
theorem C14_holds : C14.Holds Try.prog 14 := holds_of_vc tab_ok mixed (fn := Try.f14) (by kernel_rfl) rfl C14 (fun x y hF => C14_vc x.1 x.2 y hF)
theorem f14_in : ∃ fn, Try.prog.funcs[14]? = some fn ∧ fn.body.isSome = true ∧ (fn.name == "runtime.NumGoroutine") = false := ⟨Try.f14, by kernel_rfl, by kernel_rfl, by kernel_rfl⟩
end Go.Proofs
namespace Go.Proofs
open Go.AM
-- carousel/matm.Mul
def f17_j4 (a : (List Int) × (List Int)) (b : (List Int) × (List Int)) : Option Bool :=
  bindF (f42 (a.1, a.2)) fun r9 =>
  bif (!r9) then
    some true
  else
    bindF (f42 (b.1, b.2)) fun r10 =>
    some (!r10)
def f17_j5 (a : (List Int) × (List Int)) (b : (List Int) × (List Int)) : Option Bool :=
  bindF (f43 (a.1, a.2)) fun q3_1 =>
  bif (!q3_1) then
    some true
  else
    bindF (f43 (b.1, b.2)) fun q3_5 =>
    bif (!q3_5) then
      some true
    else
      guardF (0 ≤ (1 : Int) ∧ (1 : Int) < (List.length a.1 : Int)) <|
      guardF (0 ≤ (0 : Int) ∧ (0 : Int) < (List.length b.1 : Int)) <|
      some ((rd (0 : Int) a.1 (1 : Int)) != (rd (0 : Int) b.1 (0 : Int)))
def f17_j3 (a : (List Int) × (List Int)) (b : (List Int) × (List Int)) : Option (Sum Unit Int) :=
  bindF (f17_j4 a b) fun z8 =>
  bif z8 then
    some (Sum.inr (1 : Int))
  else
    bindF (f17_j5 a b) fun z11 =>
    bif z11 then
      some (Sum.inr (4 : Int))
    else
      some (Sum.inl ())
def f17_l9 (a : (List Int) × (List Int)) (b : (List Int) × (List Int)) (r12 : Int × (List Int) × (List Int)) (v74 : Int) (go : (Int × (List Int)) → Option (List Int)) (v78 : Int) (l5_2 : List Int) : Option (List Int) :=
  bif (decide (v78 < (rd (0 : Int) b.1 (1 : Int)))) then
    guardF (0 ≤ (IntKind.i64.wrap (v74 * (rd (0 : Int) a.1 (1 : Int)))) ∧ (IntKind.i64.wrap (v74 * (rd (0 : Int) a.1 (1 : Int)))) ≤ (IntKind.i64.wrap ((IntKind.i64.wrap (v74 + (1 : Int))) * (rd (0 : Int) a.1 (1 : Int)))) ∧ (IntKind.i64.wrap ((IntKind.i64.wrap (v74 + (1 : Int))) * (rd (0 : Int) a.1 (1 : Int)))) ≤ (List.length a.2 : Int)) <|
    guardF (0 ≤ (IntKind.i64.wrap (v78 * (rd (0 : Int) a.1 (1 : Int)))) ∧ (IntKind.i64.wrap (v78 * (rd (0 : Int) a.1 (1 : Int)))) ≤ (IntKind.i64.wrap ((IntKind.i64.wrap (v78 + (1 : Int))) * (rd (0 : Int) a.1 (1 : Int)))) ∧ (IntKind.i64.wrap ((IntKind.i64.wrap (v78 + (1 : Int))) * (rd (0 : Int) a.1 (1 : Int)))) ≤ (List.length r12.2.2 : Int)) <|
    bindF (f14 (List.drop (Int.toNat (IntKind.i64.wrap (v74 * (rd (0 : Int) a.1 (1 : Int))))) (List.take (Int.toNat (IntKind.i64.wrap ((IntKind.i64.wrap (v74 + (1 : Int))) * (rd (0 : Int) a.1 (1 : Int))))) a.2)) (List.drop (Int.toNat (IntKind.i64.wrap (v78 * (rd (0 : Int) a.1 (1 : Int))))) (List.take (Int.toNat (IntKind.i64.wrap ((IntKind.i64.wrap (v78 + (1 : Int))) * (rd (0 : Int) a.1 (1 : Int))))) r12.2.2))) fun q16_27 =>
    guardF (0 ≤ (IntKind.i64.wrap ((IntKind.i64.wrap (v74 * (rd (0 : Int) b.1 (1 : Int)))) + v78)) ∧ (IntKind.i64.wrap ((IntKind.i64.wrap (v74 * (rd (0 : Int) b.1 (1 : Int)))) + v78)) < (List.length l5_2 : Int)) <|
    go ((IntKind.i64.wrap (v78 + (1 : Int))), (List.set l5_2 (Int.toNat (IntKind.i64.wrap ((IntKind.i64.wrap (v74 * (rd (0 : Int) b.1 (1 : Int)))) + v78))) q16_27))
  else
    some l5_2
def f17_l8 (a : (List Int) × (List Int)) (b : (List Int) × (List Int)) (r12 : Int × (List Int) × (List Int)) (go : (Int × (List Int)) → Option (List Int)) (v74 : Int) (l5 : List Int) : Option (List Int) :=
  bif (decide (v74 < (rd (0 : Int) a.1 (0 : Int)))) then
    bindF (loopF (fun go x => f17_l9 a b r12 v74 go x.1 x.2) fuelN ((0 : Int), l5)) fun z16 =>
    go ((IntKind.i64.wrap (v74 + (1 : Int))), z16)
  else
    some l5
def f17 (a : (List Int) × (List Int)) (b : (List Int) × (List Int)) : Option (Int × (List Int) × (List Int)) :=
  bindF (f17_j3 a b) fun z6 =>
  sumF z6 (fun z6a =>
    guardF (0 ≤ (0 : Int) ∧ (0 : Int) < (List.length a.1 : Int)) <|
    guardF (0 ≤ (1 : Int) ∧ (1 : Int) < (List.length a.1 : Int)) <|
    guardF (0 ≤ (1 : Int) ∧ (1 : Int) < (List.length b.1 : Int)) <|
    bindF (f44 ([(rd (0 : Int) a.1 (0 : Int)), (rd (0 : Int) b.1 (1 : Int))]) (0 : Int)) fun q5_14 =>
    bif (q5_14.1 != (0 : Int)) then
      some ((2 : Int), [], [])
    else
      bindF (f18 (b.1, b.2)) fun r12 =>
      bindF (loopF (fun go x => f17_l8 a b r12 go x.1 x.2) fuelN ((0 : Int), q5_14.2.2)) fun z15 =>
      some ((0 : Int), q5_14.2.1, z15)) (fun z6b =>
    some (z6b, [], []))
def C17 : Con where
  X := ((List Int) × (List Int)) × ((List Int) × (List Int))
  Y := Int × (List Int) × (List Int)
  e := 0
  args x := [.dat (.p (.sl (.int .i64)) (.sl (.int .i64))) x.1, .dat (.p (.sl (.int .i64)) (.sl (.int .i64))) x.2]
  hin x := []
  F x := f17 x.1 x.2
  ret y := [.raw true [(.osl 0), (.osl 1)], .dat (.int .i64) y.1]
  hout y := [(0, .arr 3 (.int .i64) y.2.1), (1, .arr 24 (.int .i64) y.2.2)]
  nout := 2
theorem C17_vc (a : (List Int) × (List Int)) (b : (List Int) × (List Int)) (y : Int × (List Int) × (List Int)) (hF : f17 a b = some y) : vc Try.prog tab Try.f17.ntmps 0 (match Try.f17.body with | some c => c | none => .skip) (retK tab C17 Try.f17.results.toList y) (C17.shIn (a, b)).st := by
  unfold f17 at hF
  refine Or.inl ?_
  obtain ⟨z6, hz6, hF⟩ := bindE hF
  refine Or.inr ⟨Sum.elim (fun z6a => [(0, ⟨[(2, .raw false [(.ptr 0 0)]), (3, .raw false [(.ptr 1 0)]), (4, .raw false [(.ptr 2 0)])], [(0, .cells [(.d (.sl (.int .i64)) a.1), (.d (.sl (.int .i64)) a.2)]), (1, .cells [(.d (.sl (.int .i64)) b.1), (.d (.sl (.int .i64)) b.2)]), (2, .cells [(.c (.slice none 0 0)), (.c (.slice none 0 0))])], 3⟩)]) (fun z6b => [(1, ⟨[(4, .raw false [(.ptr 0 0)]), (5, .dat (.int .i64) z6b)], [(0, .cells [(.c (.slice none 0 0)), (.c (.slice none 0 0))])], 1⟩)]) z6, ?_, ?_⟩
  · have hF := hz6
    clear hz6
    unfold f17_j3 at hF
    obtain ⟨z8, hz8, hF⟩ := bindE hF
    refine Or.inr ⟨[(0, ⟨[(2, .raw false [(.ptr 0 0)]), (3, .raw false [(.ptr 1 0)]), (4, .raw false [(.ptr 2 0)]), (15, .dat .bool z8)], [(0, .cells [(.d (.sl (.int .i64)) a.1), (.d (.sl (.int .i64)) a.2)]), (1, .cells [(.d (.sl (.int .i64)) b.1), (.d (.sl (.int .i64)) b.2)]), (2, .cells [(.c (.slice none 0 0)), (.c (.slice none 0 0))])], 3⟩)], ?_, ?_⟩
    · have hF := hz8
      clear hz8
      unfold f17_j4 at hF
      obtain ⟨r9, hr9, hF⟩ := bindE hF
      refine Or.inl (And.intro f42_in (callV0 (callI C42 (a.1, a.2) r9 [] false C42_holds hr9 rfl rfl ?_)))
      refine (And.intro rfl (And.intro rfl (And.intro (fun h => nomatch h) (And.intro rfl (And.intro rfl (And.intro trivial (And.intro trivial ?_)))))))
      refine condN hF (fun hF => ?_) (fun hF => ?_)
      · refine gdYF ?_
        obtain ⟨r10, hr10, hF⟩ := bindE hF
        refine Or.inl (And.intro f42_in (callV0 (callI C42 (b.1, b.2) r10 [] false C42_holds hr10 rfl rfl ?_)))
        refine (And.intro rfl (And.intro rfl (And.intro (fun h => nomatch h) (And.intro rfl (And.intro rfl (And.intro trivial (And.intro trivial ?_)))))))
        refine gdYF ?_
        refine condF ?_
        have hz := someE hF
        subst hz
        refine Exists.intro [] (Exists.intro [] (Exists.intro [] (Exists.intro [] (Exists.intro [(0, some 0), (1, some 1), (2, some 2)] (And.intro rfl (And.intro rfl (And.intro (And.intro rfl (And.intro rfl (And.intro rfl trivial))) (And.intro rfl (And.intro rfl (And.intro rfl trivial))))))))))
      · refine gdNF ?_
        refine gdNF ?_
        refine condT ?_
        have hz := someE hF
        subst hz
        refine Exists.intro [] (Exists.intro [] (Exists.intro [] (Exists.intro [] (Exists.intro [(0, some 0), (1, some 1), (2, some 2)] (And.intro rfl (And.intro rfl (And.intro (And.intro rfl (And.intro rfl (And.intro rfl trivial))) (And.intro rfl (And.intro rfl (And.intro rfl trivial))))))))))
    · refine And.intro ?_ trivial
      refine condI hF (fun hF => ?_) (fun hF => ?_)
      · refine Or.inl ?_
        refine Or.inl ?_
        have hz := someE hF
        subst hz
        refine Exists.intro [] (Exists.intro [] (Exists.intro [] (Exists.intro [] (Exists.intro [(0, some 2)] (And.intro rfl (And.intro rfl (And.intro (And.intro rfl trivial) (And.intro rfl trivial))))))))
      · obtain ⟨z11, hz11, hF⟩ := bindE hF
        refine Or.inr ⟨[(0, ⟨[(2, .raw false [(.ptr 0 0)]), (3, .raw false [(.ptr 1 0)]), (4, .raw false [(.ptr 2 0)]), (25, .dat .bool z11)], [(0, .cells [(.d (.sl (.int .i64)) a.1), (.d (.sl (.int .i64)) a.2)]), (1, .cells [(.d (.sl (.int .i64)) b.1), (.d (.sl (.int .i64)) b.2)]), (2, .cells [(.c (.slice none 0 0)), (.c (.slice none 0 0))])], 3⟩)], ?_, ?_⟩
        · have hF := hz11
          clear hz11
          unfold f17_j5 at hF
          refine Exists.intro (.take 0 (.alt 1 (.take 2 (.take 3 (.take 4 (.alt 5 (.take 6 (.take 7 (.take 8 (.take 9 (.take 10 (.take 11 (.take 12 (.take 13 (.take 14 (.take 15 (.take 16 (.take 17 (.take 18 (.take 19 .done)))))))))))))) .done)))) .done)) (Exists.intro [] (Exists.intro [] (And.intro rfl ?_)))
          refine And.intro trivial ?_
          obtain ⟨q3_1, hq3_1, hF⟩ := bindE hF
          refine Or.inl (And.intro f43_in (callV0 (callI C43 (a.1, a.2) q3_1 [] false C43_holds hq3_1 rfl rfl ?_)))
          refine (And.intro rfl (And.intro rfl (And.intro (fun h => nomatch h) (And.intro rfl (And.intro rfl (And.intro trivial (And.intro trivial ?_)))))))
          refine condN hF (fun hF => ?_) (fun hF => ?_)
          · refine And.intro trivial ?_
            refine gdYF ?_
            obtain ⟨q3_5, hq3_5, hF⟩ := bindE hF
            refine Or.inl (And.intro f43_in (callV0 (callI C43 (b.1, b.2) q3_5 [] false C43_holds hq3_5 rfl rfl ?_)))
            refine (And.intro rfl (And.intro rfl (And.intro (fun h => nomatch h) (And.intro rfl (And.intro rfl (And.intro trivial (And.intro trivial ?_)))))))
            refine gdYF ?_
            refine condF ?_
            refine condN hF (fun hF => ?_) (fun hF => ?_)
            · refine gdYF ?_
              refine gdYF ?_
              refine guardI hF (fun hF => ?_)
              refine gdYF ?_
              refine gdYF ?_
              refine gdYF ?_
              refine gdYF ?_
              refine guardI hF (fun hF => ?_)
              refine gdYF ?_
              refine gdYF ?_
              refine condF ?_
              have hz := someE hF
              subst hz
              refine Exists.intro [] (Exists.intro [] (Exists.intro [] (Exists.intro [] (Exists.intro [(0, some 0), (1, some 1), (2, some 2)] (And.intro rfl (And.intro rfl (And.intro (And.intro rfl (And.intro rfl (And.intro rfl trivial))) (And.intro rfl (And.intro rfl (And.intro rfl trivial))))))))))
            · refine gdNF ?_
              refine gdNF ?_
              refine gdNF ?_
              refine gdNF ?_
              refine gdNF ?_
              refine gdNF ?_
              refine gdNF ?_
              refine gdNF ?_
              refine condT ?_
              have hz := someE hF
              subst hz
              refine Exists.intro [] (Exists.intro [] (Exists.intro [] (Exists.intro [] (Exists.intro [(0, some 0), (1, some 1), (2, some 2)] (And.intro rfl (And.intro rfl (And.intro (And.intro rfl (And.intro rfl (And.intro rfl trivial))) (And.intro rfl (And.intro rfl (And.intro rfl trivial))))))))))
          · refine And.intro trivial ?_
            refine gdNF ?_
            refine gdNF ?_
            refine condT ?_
            refine gdNF ?_
            refine gdNF ?_
            refine gdNF ?_
            refine gdNF ?_
            refine gdNF ?_
            refine gdNF ?_
            refine gdNF ?_
            refine gdNF ?_
            refine gdNF ?_
            refine condT ?_
            have hz := someE hF
            subst hz
            refine Exists.intro [] (Exists.intro [] (Exists.intro [] (Exists.intro [] (Exists.intro [(0, some 0), (1, some 1), (2, some 2)] (And.intro rfl (And.intro rfl (And.intro (And.intro rfl (And.intro rfl (And.intro rfl trivial))) (And.intro rfl (And.intro rfl (And.intro rfl trivial))))))))))
        · refine And.intro ?_ trivial
          refine condI hF (fun hF => ?_) (fun hF => ?_)
          · refine Or.inl ?_
            refine Or.inl ?_
            have hz := someE hF
            subst hz
            refine Exists.intro [] (Exists.intro [] (Exists.intro [] (Exists.intro [] (Exists.intro [(0, some 2)] (And.intro rfl (And.intro rfl (And.intro (And.intro rfl trivial) (And.intro rfl trivial))))))))
          · have hz := someE hF
            subst hz
            refine Exists.intro [] (Exists.intro [] (Exists.intro [] (Exists.intro [] (Exists.intro [(0, some 0), (1, some 1), (2, some 2)] (And.intro rfl (And.intro (And.intro rfl (And.intro rfl (And.intro rfl trivial))) (And.intro rfl (And.intro rfl (And.intro rfl trivial)))))))))
  · rcases z6 with z6a | z6b
    · dsimp only [sumF] at hF
      refine And.intro ?_ trivial
      refine Or.inl ?_
      refine Exists.intro (.take 0 (.take 1 (.take 2 (.take 3 (.take 4 (.take 5 (.take 6 (.take 7 (.take 8 (.take 9 (.take 10 (.take 11 (.take 12 (.take 13 (.take 14 .done))))))))))))))) (Exists.intro [] (Exists.intro [] (And.intro rfl ?_)))
      refine guardI hF (fun hF => ?_)
      refine guardI hF (fun hF => ?_)
      refine guardI hF (fun hF => ?_)
      refine Or.inl ?_
      refine Or.inl ?_
      obtain ⟨q5_14, hq5_14, hF⟩ := bindE hF
      refine Or.inl (And.intro f44_in (callV0 (callI C44 ([(rd (0 : Int) a.1 (0 : Int)), (rd (0 : Int) b.1 (1 : Int))], (0 : Int)) q5_14 [] true C44_holds hq5_14 rfl rfl ?_)))
      refine (And.intro rfl (And.intro rfl (And.intro (fun _ => rfl) (And.intro rfl (And.intro rfl (And.intro trivial (And.intro trivial ?_)))))))
      refine Or.inl ?_
      refine Or.inl ?_
      refine Or.inl ?_
      refine condI hF (fun hF => ?_) (fun hF => ?_)
      · refine Or.inl ?_
        refine Or.inl ?_
        have hy := someE hF
        subst hy
        refine And.intro rfl (Exists.intro [] (Exists.intro [] (Exists.intro [] (Exists.intro [] (Exists.intro [(0, none), (1, none)] (And.intro rfl (And.intro rfl (And.intro (And.intro rfl trivial) (And.intro rfl (And.intro rfl trivial))))))))))
      · refine Or.inl ?_
        obtain ⟨r12, hr12, hF⟩ := bindE hF
        refine Or.inl (And.intro f18_in (callV0 (callI C18 (b.1, b.2) r12 [] false C18_holds hr12 rfl rfl ?_)))
        refine (And.intro rfl (And.intro rfl (And.intro (fun h => nomatch h) (And.intro rfl (And.intro rfl (And.intro trivial (And.intro trivial ?_)))))))
        refine Or.inl ?_
        refine Or.inl ?_
        refine Or.inl ?_
        obtain ⟨z15, hz15, hF⟩ := bindE hF
        refine loopI (Int × (List Int)) (List Int) (fun x => ⟨[(2, .raw false [(.ptr 0 0)]), (4, .raw false [(.ptr 1 0)]), (7, .dat (.int .i64) (rd (0 : Int) a.1 (1 : Int))), (8, .dat (.int .i64) (rd (0 : Int) b.1 (1 : Int))), (9, .raw false [(.ptr 2 0)]), (11, .raw false [(.ptr 3 0)]), (73, .dat (.int .i64) (rd (0 : Int) a.1 (0 : Int))), (74, .dat (.int .i64) x.1)], [(0, .cells [(.d (.sl (.int .i64)) a.1), (.d (.sl (.int .i64)) a.2)]), (1, .cells [(.c (.slice none 0 0)), (.c (.slice none 0 0))]), (2, .cells [(.osl 4), (.osl 5)]), (3, .cells [(.osl 6), (.d (.sl (.int .i64)) r12.2.2)]), (4, .arr 3 (.int .i64) q5_14.2.1), (5, .arr 24 (.int .i64) x.2), (6, .arr 3 (.int .i64) r12.2.1)], 7⟩) (fun z => [(3, ⟨[(4, .raw false [(.ptr 0 0)]), (9, .raw false [(.ptr 1 0)])], [(0, .cells [(.c (.slice none 0 0)), (.c (.slice none 0 0))]), (1, .cells [(.osl 2), (.osl 3)]), (2, .arr 3 (.int .i64) q5_14.2.1), (3, .arr 24 (.int .i64) z)], 4⟩)]) (loopF (fun go x => f17_l8 a b r12 go x.1 x.2)) fuelN ((0 : Int), q5_14.2.2) z15 (And.intro hz15 (And.intro (Exists.intro [] (Exists.intro [] (Exists.intro [] (Exists.intro [8] (Exists.intro [(0, some 0), (1, some 2), (2, some 6), (3, some 9), (4, some 4), (5, some 5), (6, some 7)] (And.intro rfl (And.intro rfl (And.intro rfl (And.intro rfl (And.intro rfl (And.intro (And.intro rfl (And.intro rfl (And.intro rfl (And.intro rfl trivial)))) (And.intro rfl (And.intro rfl (And.intro rfl (And.intro rfl (And.intro rfl (And.intro rfl (And.intro rfl trivial)))))))))))))))))) (And.intro (fun _ _ h => loopZ h) (And.intro (fun m => curI (fun v74 => fun l5 z hF => ?_)) ?_))))
        · have hF : f17_l8 a b r12 (loopF (fun go x => f17_l8 a b r12 go x.1 x.2) m) v74 l5 = some z := hF
          unfold f17_l8 at hF
          refine Or.inl ?_
          refine Or.inl ?_
          refine condI hF (fun hF => ?_) (fun hF => ?_)
          · refine Or.inl ?_
            refine Or.inl ?_
            refine Or.inl ?_
            obtain ⟨z16, hz16, hF⟩ := bindE hF
            refine loopI (Int × (List Int)) (List Int) (fun x => ⟨[(2, .raw false [(.ptr 0 0)]), (4, .raw false [(.ptr 1 0)]), (7, .dat (.int .i64) (rd (0 : Int) a.1 (1 : Int))), (8, .dat (.int .i64) (rd (0 : Int) b.1 (1 : Int))), (9, .raw false [(.ptr 2 0)]), (11, .raw false [(.ptr 3 0)]), (13, .dat (.int .i64) v74), (73, .dat (.int .i64) (rd (0 : Int) a.1 (0 : Int))), (74, .dat (.int .i64) v74), (77, .dat (.int .i64) (rd (0 : Int) b.1 (1 : Int))), (78, .dat (.int .i64) x.1)], [(0, .cells [(.d (.sl (.int .i64)) a.1), (.d (.sl (.int .i64)) a.2)]), (1, .cells [(.c (.slice none 0 0)), (.c (.slice none 0 0))]), (2, .cells [(.osl 4), (.osl 5)]), (3, .cells [(.osl 6), (.d (.sl (.int .i64)) r12.2.2)]), (4, .arr 3 (.int .i64) q5_14.2.1), (5, .arr 24 (.int .i64) x.2), (6, .arr 3 (.int .i64) r12.2.1)], 7⟩) (fun z => [(5, ⟨[(2, .raw false [(.ptr 0 0)]), (4, .raw false [(.ptr 1 0)]), (7, .dat (.int .i64) (rd (0 : Int) a.1 (1 : Int))), (8, .dat (.int .i64) (rd (0 : Int) b.1 (1 : Int))), (9, .raw false [(.ptr 2 0)]), (11, .raw false [(.ptr 3 0)]), (73, .dat (.int .i64) (rd (0 : Int) a.1 (0 : Int))), (74, .dat (.int .i64) v74)], [(0, .cells [(.d (.sl (.int .i64)) a.1), (.d (.sl (.int .i64)) a.2)]), (1, .cells [(.c (.slice none 0 0)), (.c (.slice none 0 0))]), (2, .cells [(.osl 4), (.osl 5)]), (3, .cells [(.osl 6), (.d (.sl (.int .i64)) r12.2.2)]), (4, .arr 3 (.int .i64) q5_14.2.1), (5, .arr 24 (.int .i64) z), (6, .arr 3 (.int .i64) r12.2.1)], 7⟩)]) (loopF (fun go x => f17_l9 a b r12 v74 go x.1 x.2)) fuelN ((0 : Int), l5) z16 (And.intro hz16 (And.intro (Exists.intro [] (Exists.intro [] (Exists.intro [] (Exists.intro [] (Exists.intro [(0, some 0), (1, some 1), (2, some 2), (3, some 3), (4, some 4), (5, some 5), (6, some 6)] (And.intro rfl (And.intro rfl (And.intro rfl (And.intro rfl (And.intro rfl (And.intro rfl (And.intro rfl (And.intro rfl (And.intro (And.intro rfl (And.intro rfl (And.intro rfl (And.intro rfl trivial)))) (And.intro rfl (And.intro rfl (And.intro rfl (And.intro rfl (And.intro rfl (And.intro rfl (And.intro rfl trivial))))))))))))))))))))) (And.intro (fun _ _ h => loopZ h) (And.intro (fun m => curI (fun v78 => fun l5_2 z hF => ?_)) ?_))))
            · have hF : f17_l9 a b r12 v74 (loopF (fun go x => f17_l9 a b r12 v74 go x.1 x.2) m) v78 l5_2 = some z := hF
              unfold f17_l9 at hF
              refine Or.inl ?_
              refine Or.inl ?_
              refine condI hF (fun hF => ?_) (fun hF => ?_)
              · refine Or.inl ?_
                refine Or.inl ?_
                refine Exists.intro (.take 0 (.take 1 (.take 2 (.take 3 (.take 4 (.take 5 (.take 6 (.take 7 (.take 8 (.take 9 (.take 10 (.take 11 (.take 12 (.take 13 (.take 14 (.take 15 (.take 16 (.take 17 (.take 18 (.take 19 (.take 20 (.take 21 (.take 22 (.take 23 (.take 24 (.take 25 (.alt 26 (.alt 27 (.take 28 (.alt 29 .done .done)) .done) .done))))))))))))))))))))))))))) (Exists.intro [] (Exists.intro [] (And.intro rfl ?_)))
                refine guardI hF (fun hF => ?_)
                refine And.intro trivial ?_
                refine guardI hF (fun hF => ?_)
                refine And.intro trivial ?_
                obtain ⟨q16_27, hq16_27, hF⟩ := bindE hF
                refine Or.inl (And.intro f14_in (callV0 (callI C14 ((List.drop (Int.toNat (IntKind.i64.wrap (v74 * (rd (0 : Int) a.1 (1 : Int))))) (List.take (Int.toNat (IntKind.i64.wrap ((IntKind.i64.wrap (v74 + (1 : Int))) * (rd (0 : Int) a.1 (1 : Int))))) a.2)), (List.drop (Int.toNat (IntKind.i64.wrap (v78 * (rd (0 : Int) a.1 (1 : Int))))) (List.take (Int.toNat (IntKind.i64.wrap ((IntKind.i64.wrap (v78 + (1 : Int))) * (rd (0 : Int) a.1 (1 : Int))))) r12.2.2))) q16_27 [] false C14_holds hq16_27 rfl rfl ?_)))
                refine (And.intro rfl (And.intro rfl (And.intro (fun h => nomatch h) (And.intro rfl (And.intro rfl (And.intro trivial (And.intro trivial ?_)))))))
                refine guardI hF (fun hF => ?_)
                refine And.intro trivial ?_
                refine Or.inl ?_
                refine Exists.intro ((IntKind.i64.wrap (v78 + (1 : Int))), (List.set l5_2 (Int.toNat (IntKind.i64.wrap ((IntKind.i64.wrap (v74 * (rd (0 : Int) b.1 (1 : Int)))) + v78))) q16_27)) (And.intro hF (Exists.intro [] (Exists.intro [] (Exists.intro [] (Exists.intro [] (Exists.intro [(0, some 0), (1, some 1), (2, some 2), (3, some 3), (4, some 4), (5, some 5), (6, some 6)] (And.intro rfl (And.intro rfl (And.intro rfl (And.intro rfl (And.intro rfl (And.intro rfl (And.intro rfl (And.intro rfl (And.intro (And.intro rfl (And.intro rfl (And.intro rfl (And.intro rfl trivial)))) (And.intro rfl (And.intro rfl (And.intro rfl (And.intro rfl (And.intro rfl (And.intro rfl (And.intro rfl trivial))))))))))))))))))))))
              · have hz := someE hF
                subst hz
                refine Exists.intro [] (Exists.intro [] (Exists.intro [] (Exists.intro [] (Exists.intro [(0, some 0), (1, some 1), (2, some 2), (3, some 3), (4, some 4), (5, some 5), (6, some 6)] (And.intro rfl (And.intro rfl (And.intro rfl (And.intro rfl (And.intro rfl (And.intro (And.intro rfl (And.intro rfl (And.intro rfl (And.intro rfl trivial)))) (And.intro rfl (And.intro rfl (And.intro rfl (And.intro rfl (And.intro rfl (And.intro rfl (And.intro rfl trivial)))))))))))))))))
            · refine And.intro ?_ trivial
              refine Exists.intro ((IntKind.i64.wrap (v74 + (1 : Int))), z16) (And.intro hF (Exists.intro [] (Exists.intro [] (Exists.intro [] (Exists.intro [] (Exists.intro [(0, some 0), (1, some 1), (2, some 2), (3, some 3), (4, some 4), (5, some 5), (6, some 6)] (And.intro rfl (And.intro rfl (And.intro rfl (And.intro rfl (And.intro rfl (And.intro (And.intro rfl (And.intro rfl (And.intro rfl (And.intro rfl trivial)))) (And.intro rfl (And.intro rfl (And.intro rfl (And.intro rfl (And.intro rfl (And.intro rfl (And.intro rfl trivial)))))))))))))))))))
          · have hz := someE hF
            subst hz
            refine Exists.intro [] (Exists.intro [] (Exists.intro [] (Exists.intro [] (Exists.intro [(0, some 1), (1, some 2), (2, some 4), (3, some 5)] (And.intro rfl (And.intro (And.intro rfl (And.intro rfl trivial)) (And.intro rfl (And.intro rfl (And.intro rfl (And.intro rfl trivial))))))))))
        · refine And.intro ?_ trivial
          refine Or.inl ?_
          refine Or.inl ?_
          have hy := someE hF
          subst hy
          refine And.intro rfl (Exists.intro [] (Exists.intro [] (Exists.intro [] (Exists.intro [] (Exists.intro [(0, some 2), (1, some 3)] (And.intro rfl (And.intro rfl (And.intro (And.intro rfl trivial) (And.intro rfl (And.intro rfl trivial))))))))))
    · dsimp only [sumF] at hF
      refine And.intro ?_ trivial
      have hy := someE hF
      subst hy
      refine And.intro rfl (Exists.intro [] (Exists.intro [] (Exists.intro [] (Exists.intro [] (Exists.intro [(0, none), (1, none)] (And.intro rfl (And.intro rfl (And.intro (And.intro rfl trivial) (And.intro rfl (And.intro rfl trivial))))))))))
theorem C17_holds : C17.Holds Try.prog 17 := holds_of_vc tab_ok mixed (fn := Try.f17) (by kernel_rfl) rfl C17 (fun x y hF => C17_vc x.1 x.2 y hF)
theorem f17_in : ∃ fn, Try.prog.funcs[17]? = some fn ∧ fn.body.isSome = true ∧ (fn.name == "runtime.NumGoroutine") = false := ⟨Try.f17, by kernel_rfl, by kernel_rfl, by kernel_rfl⟩
end Go.Proofs
namespace Go.Proofs
open Go.AM
-- carousel/carouselref5.Same
def f46_l1 (a : List Int) (b : List Int) (go : Int → Option (Sum Unit Unit)) (i : Int) : Option (Sum Unit Unit) :=
  bif (decide (i < (List.length a : Int))) then
    guardF (0 ≤ i ∧ i < (List.length a : Int)) <|
    guardF (0 ≤ i ∧ i < (List.length b : Int)) <|
    bif ((rd (0 : Int) a i) != (rd (0 : Int) b i)) then
      some (Sum.inl ())
    else
      go (IntKind.i64.wrap (i + (1 : Int)))
  else
    some (Sum.inr ())
def f46 (a : List Int) (b : List Int) : Option Bool :=
  bif ((List.length a : Int) != (List.length b : Int)) then
    some false
  else
    bindF (loopF (fun go x => f46_l1 a b go x) fuelN (0 : Int)) fun z1 =>
    sumF z1 (fun z1a =>
      some false) (fun z1b =>
      some true)
def C46 : Con where
  X := (List Int) × (List Int)
  Y := Bool
  e := 0
  args x := [.dat (.sl (.int .i64)) x.1, .dat (.sl (.int .i64)) x.2]
  hin x := []
  F x := f46 x.1 x.2
  ret y := [.dat .bool y]
  hout y := []
  nout := 0
theorem C46_vc (a : List Int) (b : List Int) (y : Bool) (hF : f46 a b = some y) : vc Try.prog tab Try.f46.ntmps 0 (match Try.f46.body with | some c => c | none => .skip) (retK tab C46 Try.f46.results.toList y) (C46.shIn (a, b)).st := by
  unfold f46 at hF
  refine Or.inl ?_
  refine Or.inl ?_
  refine Or.inl ?_
  refine condI hF (fun hF => ?_) (fun hF => ?_)
  · refine Or.inl ?_
    have hy := someE hF
    subst hy
    refine And.intro rfl (Exists.intro [] (Exists.intro [] (Exists.intro [] (Exists.intro [] (Exists.intro [] (And.intro rfl (And.intro rfl (And.intro trivial trivial))))))))
  · refine Or.inl ?_
    refine Or.inl ?_
    obtain ⟨z1, hz1, hF⟩ := bindE hF
    refine loopI Int (Sum Unit Unit) (fun x => ⟨[(0, .dat (.sl (.int .i64)) a), (1, .dat (.sl (.int .i64)) b), (5, .dat (.int .i64) x)], [], 0⟩) (fun z => Sum.elim (fun za => [(1, ⟨[(4, .dat .bool false)], [], 0⟩)]) (fun zb => [(2, ⟨[], [], 0⟩)]) z) (loopF (fun go x => f46_l1 a b go x)) fuelN (0 : Int) z1 (And.intro hz1 (And.intro (Exists.intro [] (Exists.intro [] (Exists.intro [] (Exists.intro [] (Exists.intro [] (And.intro rfl (And.intro rfl (And.intro rfl (And.intro rfl (And.intro trivial trivial)))))))))) (And.intro (fun _ _ h => loopZ h) (And.intro (fun m => fun i z hF => ?_) ?_))))
    · have hF : f46_l1 a b (loopF (fun go x => f46_l1 a b go x) m) i = some z := hF
      unfold f46_l1 at hF
      refine Or.inl ?_
      refine Or.inl ?_
      refine condI hF (fun hF => ?_) (fun hF => ?_)
      · refine Or.inl ?_
        refine Or.inl ?_
        refine Exists.intro (.take 0 (.take 1 (.take 2 (.take 3 (.take 4 (.take 5 (.take 6 (.take 7 (.take 8 .done))))))))) (Exists.intro [] (Exists.intro [] (And.intro rfl ?_)))
        refine guardI hF (fun hF => ?_)
        refine guardI hF (fun hF => ?_)
        refine condI hF (fun hF => ?_) (fun hF => ?_)
        · refine Or.inl ?_
          have hz := someE hF
          subst hz
          refine Exists.intro [] (Exists.intro [] (Exists.intro [] (Exists.intro [] (Exists.intro [] (And.intro rfl (And.intro rfl (And.intro trivial trivial)))))))
        · refine Exists.intro (IntKind.i64.wrap (i + (1 : Int))) (And.intro hF (Exists.intro [] (Exists.intro [] (Exists.intro [] (Exists.intro [] (Exists.intro [] (And.intro rfl (And.intro rfl (And.intro rfl (And.intro rfl (And.intro trivial trivial)))))))))))
      · have hz := someE hF
        subst hz
        refine Exists.intro [] (Exists.intro [] (Exists.intro [] (Exists.intro [] (Exists.intro [] (And.intro rfl (And.intro trivial trivial))))))
    · rcases z1 with z1a | z1b
      · dsimp only [sumF] at hF
        refine And.intro ?_ trivial
        have hy := someE hF
        subst hy
        refine And.intro rfl (Exists.intro [] (Exists.intro [] (Exists.intro [] (Exists.intro [] (Exists.intro [] (And.intro rfl (And.intro rfl (And.intro trivial trivial))))))))
      · dsimp only [sumF] at hF
        refine And.intro ?_ trivial
        refine Or.inl ?_
        have hy := someE hF
        subst hy
        refine And.intro rfl (Exists.intro [] (Exists.intro [] (Exists.intro [] (Exists.intro [] (Exists.intro [] (And.intro rfl (And.intro rfl (And.intro trivial trivial))))))))
theorem C46_holds : C46.Holds Try.prog 46 := holds_of_vc tab_ok mixed (fn := Try.f46) (by kernel_rfl) rfl C46 (fun x y hF => C46_vc x.1 x.2 y hF)
theorem f46_in : ∃ fn, Try.prog.funcs[46]? = some fn ∧ fn.body.isSome = true ∧ (fn.name == "runtime.NumGoroutine") = false := ⟨Try.f46, by kernel_rfl, by kernel_rfl, by kernel_rfl⟩
end Go.Proofs
namespace Go.Proofs
open Go.AM
-- carousel/carouselref5.Alike
def f19_j1 (a : (List Int) × (List Int)) (b : (List Int) × (List Int)) : Option (Sum Unit Unit) :=
  bindF (f46 a.1 b.1) fun r2 =>
  bif (!r2) then
    some (Sum.inr ())
  else
    bif ((List.length a.2 : Int) != (List.length b.2 : Int)) then
      some (Sum.inr ())
    else
      some (Sum.inl ())
def f19_l2 (a : (List Int) × (List Int)) (b : (List Int) × (List Int)) (go : Int → Option (Sum Unit Unit)) (i : Int) : Option (Sum Unit Unit) :=
  bif (decide (i < (List.length a.2 : Int))) then
    guardF (0 ≤ i ∧ i < (List.length a.2 : Int)) <|
    guardF (0 ≤ i ∧ i < (List.length b.2 : Int)) <|
    bif ((rd (0 : Int) a.2 i) != (rd (0 : Int) b.2 i)) then
      some (Sum.inl ())
    else
      go (IntKind.i64.wrap (i + (1 : Int)))
  else
    some (Sum.inr ())
def f19 (a : (List Int) × (List Int)) (b : (List Int) × (List Int)) : Option Bool :=
  bindF (f19_j1 a b) fun z1 =>
  sumF z1 (fun z1a =>
    bindF (loopF (fun go x => f19_l2 a b go x) fuelN (0 : Int)) fun z3 =>
    sumF z3 (fun z3a =>
      some false) (fun z3b =>
      some true)) (fun z1b =>
    some false)
def C19 : Con where
  X := ((List Int) × (List Int)) × ((List Int) × (List Int))
  Y := Bool
  e := 0
  args x := [.dat (.p (.sl (.int .i64)) (.sl (.int .i64))) x.1, .dat (.p (.sl (.int .i64)) (.sl (.int .i64))) x.2]
  hin x := []
  F x := f19 x.1 x.2
  ret y := [.dat .bool y]
  hout y := []
  nout := 0
theorem C19_vc (a : (List Int) × (List Int)) (b : (List Int) × (List Int)) (y : Bool) (hF : f19 a b = some y) : vc Try.prog tab Try.f19.ntmps 0 (match Try.f19.body with | some c => c | none => .skip) (retK tab C19 Try.f19.results.toList y) (C19.shIn (a, b)).st := by
  unfold f19 at hF
  refine Or.inl ?_
  obtain ⟨z1, hz1, hF⟩ := bindE hF
  refine Or.inr ⟨Sum.elim (fun z1a => [(0, ⟨[(2, .raw false [(.ptr 0 0)]), (3, .raw false [(.ptr 1 0)])], [(0, .cells [(.d (.sl (.int .i64)) a.1), (.d (.sl (.int .i64)) a.2)]), (1, .cells [(.d (.sl (.int .i64)) b.1), (.d (.sl (.int .i64)) b.2)])], 2⟩)]) (fun z1b => [(1, ⟨[(4, .dat .bool false)], [], 0⟩)]) z1, ?_, ?_⟩
  · have hF := hz1
    clear hz1
    unfold f19_j1 at hF
    refine Or.inl ?_
    obtain ⟨r2, hr2, hF⟩ := bindE hF
    refine Or.inl (And.intro f46_in (callV0 (callI C46 (a.1, b.1) r2 [] false C46_holds hr2 rfl rfl ?_)))
    refine (And.intro rfl (And.intro rfl (And.intro (fun h => nomatch h) (And.intro rfl (And.intro rfl (And.intro trivial (And.intro trivial ?_)))))))
    refine condN hF (fun hF => ?_) (fun hF => ?_)
    · refine gdYF ?_
      refine gdYF ?_
      refine gdYF ?_
      refine gdYF ?_
      refine gdYF ?_
      refine gdYF ?_
      refine condF ?_
      refine condI hF (fun hF => ?_) (fun hF => ?_)
      · refine Or.inl ?_
        have hz := someE hF
        subst hz
        refine Exists.intro [] (Exists.intro [] (Exists.intro [] (Exists.intro [] (Exists.intro [] (And.intro rfl (And.intro rfl (And.intro trivial trivial)))))))
      · have hz := someE hF
        subst hz
        refine Exists.intro [] (Exists.intro [] (Exists.intro [] (Exists.intro [] (Exists.intro [(0, some 0), (1, some 1)] (And.intro rfl (And.intro (And.intro rfl (And.intro rfl trivial)) (And.intro rfl (And.intro rfl trivial))))))))
    · refine gdNF ?_
      refine gdNF ?_
      refine gdNF ?_
      refine gdNF ?_
      refine gdNF ?_
      refine gdNF ?_
      refine condT ?_
      refine condT ?_
      refine Or.inl ?_
      have hz := someE hF
      subst hz
      refine Exists.intro [] (Exists.intro [] (Exists.intro [] (Exists.intro [] (Exists.intro [] (And.intro rfl (And.intro rfl (And.intro trivial trivial)))))))
  · rcases z1 with z1a | z1b
    · dsimp only [sumF] at hF
      refine And.intro ?_ trivial
      refine Or.inl ?_
      refine Or.inl ?_
      obtain ⟨z3, hz3, hF⟩ := bindE hF
      refine loopI Int (Sum Unit Unit) (fun x => ⟨[(2, .raw false [(.ptr 0 0)]), (3, .raw false [(.ptr 1 0)]), (5, .dat (.int .i64) x)], [(0, .cells [(.d (.sl (.int .i64)) a.1), (.d (.sl (.int .i64)) a.2)]), (1, .cells [(.d (.sl (.int .i64)) b.1), (.d (.sl (.int .i64)) b.2)])], 2⟩) (fun z => Sum.elim (fun za => [(1, ⟨[(4, .dat .bool false)], [], 0⟩)]) (fun zb => [(2, ⟨[], [], 0⟩)]) z) (loopF (fun go x => f19_l2 a b go x)) fuelN (0 : Int) z3 (And.intro hz3 (And.intro (Exists.intro [] (Exists.intro [] (Exists.intro [] (Exists.intro [] (Exists.intro [(0, some 0), (1, some 1)] (And.intro rfl (And.intro rfl (And.intro (And.intro rfl (And.intro rfl trivial)) (And.intro rfl (And.intro rfl trivial)))))))))) (And.intro (fun _ _ h => loopZ h) (And.intro (fun m => fun i z hF => ?_) ?_))))
      · have hF : f19_l2 a b (loopF (fun go x => f19_l2 a b go x) m) i = some z := hF
        unfold f19_l2 at hF
        refine Or.inl ?_
        refine Or.inl ?_
        refine condI hF (fun hF => ?_) (fun hF => ?_)
        · refine Or.inl ?_
          refine Or.inl ?_
          refine Exists.intro (.take 0 (.take 1 (.take 2 (.take 3 (.take 4 (.take 5 (.take 6 (.take 7 (.take 8 (.take 9 (.take 10 .done))))))))))) (Exists.intro [] (Exists.intro [] (And.intro rfl ?_)))
          refine guardI hF (fun hF => ?_)
          refine guardI hF (fun hF => ?_)
          refine condI hF (fun hF => ?_) (fun hF => ?_)
          · refine Or.inl ?_
            have hz := someE hF
            subst hz
            refine Exists.intro [] (Exists.intro [] (Exists.intro [] (Exists.intro [] (Exists.intro [] (And.intro rfl (And.intro rfl (And.intro trivial trivial)))))))
          · refine Exists.intro (IntKind.i64.wrap (i + (1 : Int))) (And.intro hF (Exists.intro [] (Exists.intro [] (Exists.intro [] (Exists.intro [] (Exists.intro [(0, some 0), (1, some 1)] (And.intro rfl (And.intro rfl (And.intro (And.intro rfl (And.intro rfl trivial)) (And.intro rfl (And.intro rfl trivial)))))))))))
        · have hz := someE hF
          subst hz
          refine Exists.intro [] (Exists.intro [] (Exists.intro [] (Exists.intro [] (Exists.intro [] (And.intro rfl (And.intro trivial trivial))))))
      · rcases z3 with z3a | z3b
        · dsimp only [sumF] at hF
          refine And.intro ?_ trivial
          have hy := someE hF
          subst hy
          refine And.intro rfl (Exists.intro [] (Exists.intro [] (Exists.intro [] (Exists.intro [] (Exists.intro [] (And.intro rfl (And.intro rfl (And.intro trivial trivial))))))))
        · dsimp only [sumF] at hF
          refine And.intro ?_ trivial
          refine Or.inl ?_
          have hy := someE hF
          subst hy
          refine And.intro rfl (Exists.intro [] (Exists.intro [] (Exists.intro [] (Exists.intro [] (Exists.intro [] (And.intro rfl (And.intro rfl (And.intro trivial trivial))))))))
    · dsimp only [sumF] at hF
      refine And.intro ?_ trivial
      have hy := someE hF
      subst hy
      refine And.intro rfl (Exists.intro [] (Exists.intro [] (Exists.intro [] (Exists.intro [] (Exists.intro [] (And.intro rfl (And.intro rfl (And.intro trivial trivial))))))))
theorem C19_holds : C19.Holds Try.prog 19 := holds_of_vc tab_ok mixed (fn := Try.f19) (by kernel_rfl) rfl C19 (fun x y hF => C19_vc x.1 x.2 y hF)
theorem f19_in : ∃ fn, Try.prog.funcs[19]? = some fn ∧ fn.body.isSome = true ∧ (fn.name == "runtime.NumGoroutine") = false := ⟨Try.f19, by kernel_rfl, by kernel_rfl, by kernel_rfl⟩
end Go.Proofs
namespace Go.Proofs
open Go.AM
-- carousel/shape.Strides
def f50_l1 (d : List Int) (go : (Int × Int × (List Int)) → Option (List Int)) (n : Int) (i : Int) (l0 : List Int) : Option (List Int) :=
  bif (decide (i ≥ (0 : Int))) then
    guardF (0 ≤ i ∧ i < (List.length l0 : Int)) <|
    guardF (0 ≤ i ∧ i < (List.length d : Int)) <|
    go ((IntKind.i64.wrap (n * (rd (0 : Int) d i))), (IntKind.i64.wrap (i - (1 : Int))), (List.set l0 (Int.toNat i) n))
  else
    some l0
def f50 (d : List Int) : Option (List Int) :=
  bindF (f74 d) fun r1 =>
  bif (!r1) then
    some ([])
  else
    guardF (0 ≤ (List.length d : Int) ∧ (List.length d : Int) ≤ (List.length d : Int) ∧ Int.toNat (List.length d : Int) * 8 ≤ 140737488355328) <|
    bindF (loopF (fun go x => f50_l1 d go x.1 x.2.1 x.2.2) fuelN ((1 : Int), (IntKind.i64.wrap ((List.length d : Int) - (1 : Int))), (List.replicate (Int.toNat (List.length d : Int)) (0 : Int)))) fun z2 =>
    some z2
def C50 : Con where
  X := List Int
  Y := List Int
  e := 0
  args x := [.dat (.sl (.int .i64)) x]
  hin x := []
  F x := f50 x
  ret y := [.raw false [(.osl 0)]]
  hout y := [(0, .arr 3 (.int .i64) y)]
  nout := 1
theorem C50_vc (d : List Int) (y : List Int) (hF : f50 d = some y) : vc Try.prog tab Try.f50.ntmps 0 (match Try.f50.body with | some c => c | none => .skip) (retK tab C50 Try.f50.results.toList y) (C50.shIn d).st := by
  unfold f50 at hF
  refine Or.inl ?_
  refine Or.inl ?_
  refine Or.inl ?_
  obtain ⟨r1, hr1, hF⟩ := bindE hF
  refine Or.inl (And.intro f74_in (callV0 (callI C74 d r1 [] false C74_holds hr1 rfl rfl ?_)))
  refine (And.intro rfl (And.intro (fun h => nomatch h) (And.intro rfl (And.intro rfl (And.intro trivial (And.intro trivial ?_))))))
  refine condI hF (fun hF => ?_) (fun hF => ?_)
  · refine Or.inl ?_
    have hy := someE hF
    subst hy
    refine And.intro rfl (Exists.intro [] (Exists.intro [] (Exists.intro [] (Exists.intro [] (Exists.intro [(0, none)] (And.intro rfl (And.intro (And.intro rfl trivial) (And.intro rfl trivial))))))))
  · refine Or.inl ?_
    refine guardI hF (fun hF => ?_)
    refine Or.inl ?_
    refine Or.inl ?_
    refine Or.inl ?_
    obtain ⟨z2, hz2, hF⟩ := bindE hF
    refine loopI (Int × Int × (List Int)) (List Int) (fun x => ⟨[(0, .dat (.sl (.int .i64)) d), (3, .raw false [(.osl 0)]), (4, .dat (.int .i64) x.1), (5, .dat (.int .i64) x.2.1)], [(0, .arr 3 (.int .i64) x.2.2)], 1⟩) (fun z => [(2, ⟨[(3, .raw false [(.osl 0)])], [(0, .arr 3 (.int .i64) z)], 1⟩)]) (loopF (fun go x => f50_l1 d go x.1 x.2.1 x.2.2)) fuelN ((1 : Int), (IntKind.i64.wrap ((List.length d : Int) - (1 : Int))), (List.replicate (Int.toNat (List.length d : Int)) (0 : Int))) z2 (And.intro hz2 (And.intro (Exists.intro [] (Exists.intro [] (Exists.intro [] (Exists.intro [] (Exists.intro [(0, some 0)] (And.intro rfl (And.intro rfl (And.intro rfl (And.intro rfl (And.intro (And.intro rfl trivial) (And.intro rfl trivial))))))))))) (And.intro (fun _ _ h => loopZ h) (And.intro (fun m => curI (fun n => curI (fun i => fun l0 z hF => ?_))) ?_))))
    · have hF : f50_l1 d (loopF (fun go x => f50_l1 d go x.1 x.2.1 x.2.2) m) n i l0 = some z := hF
      unfold f50_l1 at hF
      refine Or.inl ?_
      refine Or.inl ?_
      refine condI hF (fun hF => ?_) (fun hF => ?_)
      · refine Or.inl ?_
        refine Or.inl ?_
        refine guardI hF (fun hF => ?_)
        refine Or.inl ?_
        refine guardI hF (fun hF => ?_)
        refine Exists.intro ((IntKind.i64.wrap (n * (rd (0 : Int) d i))), (IntKind.i64.wrap (i - (1 : Int))), (List.set l0 (Int.toNat i) n)) (And.intro hF (Exists.intro [] (Exists.intro [] (Exists.intro [] (Exists.intro [] (Exists.intro [(0, some 0)] (And.intro rfl (And.intro rfl (And.intro rfl (And.intro rfl (And.intro (And.intro rfl trivial) (And.intro rfl trivial))))))))))))
      · have hz := someE hF
        subst hz
        refine Exists.intro [] (Exists.intro [] (Exists.intro [] (Exists.intro [] (Exists.intro [(0, some 0)] (And.intro rfl (And.intro (And.intro rfl trivial) (And.intro rfl trivial)))))))
    · refine And.intro ?_ trivial
      refine Or.inl ?_
      have hy := someE hF
      subst hy
      refine And.intro rfl (Exists.intro [] (Exists.intro [] (Exists.intro [] (Exists.intro [] (Exists.intro [(0, some 0)] (And.intro rfl (And.intro (And.intro rfl trivial) (And.intro rfl trivial))))))))
theorem C50_holds : C50.Holds Try.prog 50 := holds_of_vc tab_ok mixed (fn := Try.f50) (by kernel_rfl) rfl C50 (fun x y hF => C50_vc x y hF)
theorem f50_in : ∃ fn, Try.prog.funcs[50]? = some fn ∧ fn.body.isSome = true ∧ (fn.name == "runtime.NumGoroutine") = false := ⟨Try.f50, by kernel_rfl, by kernel_rfl, by kernel_rfl⟩
end Go.Proofs
namespace Go.Proofs
open Go.AM
-- carousel/matm.Sum
def f23_j3 (a : (List Int) × (List Int)) (side : Int) : Option Bool :=
  bindF (f42 (a.1, a.2)) fun r6 =>
  bif (!r6) then
    some true
  else
    bif (decide (side < (0 : Int))) then
      some true
    else
      some (decide (side ≥ (List.length a.1 : Int)))
def f23_j2 (a : (List Int) × (List Int)) (side : Int) : Option (Sum Unit Unit) :=
  bindF (f23_j3 a side) fun z5 =>
  bif z5 then
    some (Sum.inr ())
  else
    some (Sum.inl ())
def f23_l4 (a : (List Int) × (List Int)) (side : Int) (r7 : List Int) (go : (Int × (List (Int × Int))) → Option (List (Int × Int))) (v55 : Int) (l3 : List (Int × Int)) : Option (List (Int × Int)) :=
  bif (decide (v55 < (List.length a.2 : Int))) then
    guardF (0 ≤ v55 ∧ v55 < (List.length a.2 : Int)) <|
    guardF (0 ≤ side ∧ side < (List.length a.1 : Int)) <|
    guardF ((IntKind.i64.wrap ((rd (0 : Int) r7 side) * (rd (0 : Int) a.1 side))) ≠ 0) <|
    guardF ((rd (0 : Int) r7 side) ≠ 0) <|
    guardF (0 ≤ (IntKind.i64.wrap ((IntKind.i64.wrap ((IntKind.i64.wrap (Int.tdiv v55 (IntKind.i64.wrap ((rd (0 : Int) r7 side) * (rd (0 : Int) a.1 side))))) * (rd (0 : Int) r7 side))) + (Int.tmod v55 (rd (0 : Int) r7 side)))) ∧ (IntKind.i64.wrap ((IntKind.i64.wrap ((IntKind.i64.wrap (Int.tdiv v55 (IntKind.i64.wrap ((rd (0 : Int) r7 side) * (rd (0 : Int) a.1 side))))) * (rd (0 : Int) r7 side))) + (Int.tmod v55 (rd (0 : Int) r7 side)))) < (List.length l3 : Int)) <|
    bindF (f52 (rd (0 : Int) a.2 v55)) fun q10_7 =>
    bindF (f51 ((rd (Ty.z (.p (.int .i64) (.int .u64))) l3 (IntKind.i64.wrap ((IntKind.i64.wrap ((IntKind.i64.wrap (Int.tdiv v55 (IntKind.i64.wrap ((rd (0 : Int) r7 side) * (rd (0 : Int) a.1 side))))) * (rd (0 : Int) r7 side))) + (Int.tmod v55 (rd (0 : Int) r7 side))))).1, (rd (Ty.z (.p (.int .i64) (.int .u64))) l3 (IntKind.i64.wrap ((IntKind.i64.wrap ((IntKind.i64.wrap (Int.tdiv v55 (IntKind.i64.wrap ((rd (0 : Int) r7 side) * (rd (0 : Int) a.1 side))))) * (rd (0 : Int) r7 side))) + (Int.tmod v55 (rd (0 : Int) r7 side))))).2) (q10_7.1, q10_7.2)) fun q10_8 =>
    guardF (0 ≤ (IntKind.i64.wrap ((IntKind.i64.wrap ((IntKind.i64.wrap (Int.tdiv v55 (IntKind.i64.wrap ((rd (0 : Int) r7 side) * (rd (0 : Int) a.1 side))))) * (rd (0 : Int) r7 side))) + (Int.tmod v55 (rd (0 : Int) r7 side)))) ∧ (IntKind.i64.wrap ((IntKind.i64.wrap ((IntKind.i64.wrap (Int.tdiv v55 (IntKind.i64.wrap ((rd (0 : Int) r7 side) * (rd (0 : Int) a.1 side))))) * (rd (0 : Int) r7 side))) + (Int.tmod v55 (rd (0 : Int) r7 side)))) < (List.length l3 : Int)) <|
    go ((IntKind.i64.wrap (v55 + (1 : Int))), (List.set l3 (Int.toNat (IntKind.i64.wrap ((IntKind.i64.wrap ((IntKind.i64.wrap (Int.tdiv v55 (IntKind.i64.wrap ((rd (0 : Int) r7 side) * (rd (0 : Int) a.1 side))))) * (rd (0 : Int) r7 side))) + (Int.tmod v55 (rd (0 : Int) r7 side))))) (q10_8.1, q10_8.2)))
  else
    some l3
def f23_l5 (z8 : List (Int × Int)) (go : (Int × (List Int)) → Option (List Int)) (v93 : Int) (l4 : List Int) : Option (List Int) :=
  bif (decide (v93 < (List.length z8 : Int))) then
    guardF (0 ≤ v93 ∧ v93 < (List.length z8 : Int)) <|
    bindF (f53 ((rd (Ty.z (.p (.int .i64) (.int .u64))) z8 v93).1, (rd (Ty.z (.p (.int .i64) (.int .u64))) z8 v93).2)) fun q16_4 =>
    guardF (0 ≤ v93 ∧ v93 < (List.length l4 : Int)) <|
    go ((IntKind.i64.wrap (v93 + (1 : Int))), (List.set l4 (Int.toNat v93) q16_4))
  else
    some l4
def f23 (a : (List Int) × (List Int)) (side : Int) : Option (Int × (List Int) × (List Int)) :=
  bindF (f23_j2 a side) fun z3 =>
  sumF z3 (fun z3a =>
    guardF (0 ≤ side ∧ side ≤ (List.length a.1 : Int)) <|
    guardF (0 ≤ (IntKind.i64.wrap (side + (1 : Int))) ∧ (IntKind.i64.wrap (side + (1 : Int))) ≤ (List.length a.1 : Int)) <|
    guardF ((List.length ([] : List Int) + List.length (List.take (Int.toNat side) a.1)) * 8 ≤ 140737488355328) <|
    guardF ((List.length (([] : List Int) ++ (List.take (Int.toNat side) a.1)) + List.length (List.drop (Int.toNat (IntKind.i64.wrap (side + (1 : Int)))) a.1)) * 8 ≤ 140737488355328) <|
    bindF (f49 ((([] : List Int) ++ (List.take (Int.toNat side) a.1)) ++ (List.drop (Int.toNat (IntKind.i64.wrap (side + (1 : Int)))) a.1))) fun q3_12 =>
    guardF (0 ≤ q3_12 ∧ q3_12 ≤ q3_12 ∧ Int.toNat q3_12 * 16 ≤ 140737488355328) <|
    bindF (f50 a.1) fun r7 =>
    guardF (0 ≤ side ∧ side < (List.length r7 : Int)) <|
    bindF (loopF (fun go x => f23_l4 a side r7 go x.1 x.2) fuelN ((0 : Int), (List.replicate (Int.toNat q3_12) (Ty.z (.p (.int .i64) (.int .u64)))))) fun z8 =>
    bindF (f44 ((([] : List Int) ++ (List.take (Int.toNat side) a.1)) ++ (List.drop (Int.toNat (IntKind.i64.wrap (side + (1 : Int)))) a.1)) (0 : Int)) fun q10_10 =>
    bindF (loopF (fun go x => f23_l5 z8 go x.1 x.2) fuelN ((0 : Int), q10_10.2.2)) fun z9 =>
    some ((0 : Int), q10_10.2.1, z9)) (fun z3b =>
    some ((1 : Int), [], []))
def C23 : Con where
  X := ((List Int) × (List Int)) × Int
  Y := Int × (List Int) × (List Int)
  e := 0
  args x := [.dat (.p (.sl (.int .i64)) (.sl (.int .i64))) x.1, .dat (.int .i64) x.2]
  hin x := []
  F x := f23 x.1 x.2
  ret y := [.raw true [(.osl 0), (.osl 1)], .dat (.int .i64) y.1]
  hout y := [(0, .arr 3 (.int .i64) y.2.1), (1, .arr 24 (.int .i64) y.2.2)]
  nout := 2
theorem C23_vc (a : (List Int) × (List Int)) (side : Int) (y : Int × (List Int) × (List Int)) (hF : f23 a side = some y) : vc Try.prog tab Try.f23.ntmps 0 (match Try.f23.body with | some c => c | none => .skip) (retK tab C23 Try.f23.results.toList y) (C23.shIn (a, side)).st := by
  unfold f23 at hF
  refine Or.inl ?_
  obtain ⟨z3, hz3, hF⟩ := bindE hF
  refine Or.inr ⟨Sum.elim (fun z3a => [(0, ⟨[(1, .dat (.int .i64) side), (2, .raw false [(.ptr 0 0)]), (4, .raw false [(.ptr 1 0)])], [(0, .cells [(.d (.sl (.int .i64)) a.1), (.d (.sl (.int .i64)) a.2)]), (1, .cells [(.c (.slice none 0 0)), (.c (.slice none 0 0))])], 2⟩)]) (fun z3b => [(1, ⟨[(4, .raw false [(.ptr 0 0)]), (5, .dat (.int .i64) (1 : Int))], [(0, .cells [(.c (.slice none 0 0)), (.c (.slice none 0 0))])], 1⟩)]) z3, ?_, ?_⟩
  · have hF := hz3
    clear hz3
    unfold f23_j2 at hF
    obtain ⟨z5, hz5, hF⟩ := bindE hF
    refine Or.inr ⟨[(0, ⟨[(1, .dat (.int .i64) side), (2, .raw false [(.ptr 0 0)]), (4, .raw false [(.ptr 1 0)]), (29, .dat .bool z5)], [(0, .cells [(.d (.sl (.int .i64)) a.1), (.d (.sl (.int .i64)) a.2)]), (1, .cells [(.c (.slice none 0 0)), (.c (.slice none 0 0))])], 2⟩)], ?_, ?_⟩
    · have hF := hz5
      clear hz5
      unfold f23_j3 at hF
      obtain ⟨r6, hr6, hF⟩ := bindE hF
      refine Or.inl (And.intro f42_in (callV0 (callI C42 (a.1, a.2) r6 [] false C42_holds hr6 rfl rfl ?_)))
      refine (And.intro rfl (And.intro rfl (And.intro (fun h => nomatch h) (And.intro rfl (And.intro rfl (And.intro trivial (And.intro trivial ?_)))))))
      refine condN hF (fun hF => ?_) (fun hF => ?_)
      · refine gdYF ?_
        refine condF ?_
        refine condN hF (fun hF => ?_) (fun hF => ?_)
        · refine gdYF ?_
          refine gdYF ?_
          refine gdYF ?_
          refine gdYF ?_
          refine condF ?_
          have hz := someE hF
          subst hz
          refine Exists.intro [] (Exists.intro [] (Exists.intro [] (Exists.intro [] (Exists.intro [(0, some 0), (1, some 1)] (And.intro rfl (And.intro rfl (And.intro rfl (And.intro (And.intro rfl (And.intro rfl trivial)) (And.intro rfl (And.intro rfl trivial))))))))))
        · refine gdNF ?_
          refine gdNF ?_
          refine gdNF ?_
          refine gdNF ?_
          refine condT ?_
          have hz := someE hF
          subst hz
          refine Exists.intro [] (Exists.intro [] (Exists.intro [] (Exists.intro [] (Exists.intro [(0, some 0), (1, some 1)] (And.intro rfl (And.intro rfl (And.intro rfl (And.intro (And.intro rfl (And.intro rfl trivial)) (And.intro rfl (And.intro rfl trivial))))))))))
      · refine gdNF ?_
        refine condT ?_
        refine gdNF ?_
        refine gdNF ?_
        refine gdNF ?_
        refine gdNF ?_
        refine gdNF ?_
        refine condT ?_
        have hz := someE hF
        subst hz
        refine Exists.intro [] (Exists.intro [] (Exists.intro [] (Exists.intro [] (Exists.intro [(0, some 0), (1, some 1)] (And.intro rfl (And.intro rfl (And.intro rfl (And.intro (And.intro rfl (And.intro rfl trivial)) (And.intro rfl (And.intro rfl trivial))))))))))
    · refine And.intro ?_ trivial
      refine condI hF (fun hF => ?_) (fun hF => ?_)
      · refine Or.inl ?_
        refine Or.inl ?_
        have hz := someE hF
        subst hz
        refine Exists.intro [] (Exists.intro [] (Exists.intro [] (Exists.intro [] (Exists.intro [(0, some 1)] (And.intro rfl (And.intro rfl (And.intro (And.intro rfl trivial) (And.intro rfl trivial))))))))
      · have hz := someE hF
        subst hz
        refine Exists.intro [] (Exists.intro [] (Exists.intro [] (Exists.intro [] (Exists.intro [(0, some 0), (1, some 1)] (And.intro rfl (And.intro rfl (And.intro (And.intro rfl (And.intro rfl trivial)) (And.intro rfl (And.intro rfl trivial)))))))))
  · rcases z3 with z3a | z3b
    · dsimp only [sumF] at hF
      refine And.intro ?_ trivial
      refine Or.inl ?_
      refine Exists.intro (.take 1 (.take 2 (.take 3 (.take 4 (.take 6 (.take 7 (.take 8 (.take 9 (.take 10 (.alt 0 (.alt 5 (.alt 11 (.take 12 .done) .done) .done) .done)))))))))) (Exists.intro [] (Exists.intro [] (And.intro rfl ?_)))
      refine guardI hF (fun hF => ?_)
      refine guardI hF (fun hF => ?_)
      refine And.intro trivial ?_
      refine Or.inl ?_
      refine And.intro trivial ?_
      refine Or.inl ?_
      refine guardI hF (fun hF => ?_)
      refine And.intro trivial ?_
      refine Or.inl ?_
      refine guardI hF (fun hF => ?_)
      refine Or.inl ?_
      obtain ⟨q3_12, hq3_12, hF⟩ := bindE hF
      refine Or.inl (And.intro f49_in (callV0 (callI C49 ((([] : List Int) ++ (List.take (Int.toNat side) a.1)) ++ (List.drop (Int.toNat (IntKind.i64.wrap (side + (1 : Int)))) a.1)) q3_12 [] true C49_holds hq3_12 rfl rfl ?_)))
      refine (And.intro rfl (And.intro (fun _ => rfl) (And.intro rfl (And.intro rfl (And.intro trivial (And.intro trivial ?_))))))
      refine guardI hF (fun hF => ?_)
      refine Or.inl ?_
      obtain ⟨r7, hr7, hF⟩ := bindE hF
      refine Or.inl (And.intro f50_in (callV0 (callI C50 a.1 r7 [] false C50_holds hr7 rfl rfl ?_)))
      refine (And.intro rfl (And.intro (fun h => nomatch h) (And.intro rfl (And.intro rfl (And.intro trivial (And.intro trivial ?_))))))
      refine guardI hF (fun hF => ?_)
      refine Or.inl ?_
      refine Or.inl ?_
      obtain ⟨z8, hz8, hF⟩ := bindE hF
      refine loopI (Int × (List (Int × Int))) (List (Int × Int)) (fun x => ⟨[(1, .dat (.int .i64) side), (2, .raw false [(.ptr 0 0)]), (4, .raw false [(.ptr 1 0)]), (6, .raw false [(.osl 2)]), (7, .raw false [(.osl 3)]), (8, .dat (.int .i64) (rd (0 : Int) r7 side)), (53, .dat (.sl (.int .i64)) a.2), (54, .dat (.int .i64) (List.length a.2 : Int)), (55, .dat (.int .i64) x.1)], [(0, .cells [(.d (.sl (.int .i64)) a.1), (.d (.sl (.int .i64)) a.2)]), (1, .cells [(.c (.slice none 0 0)), (.c (.slice none 0 0))]), (2, .arr 3 (.int .i64) ((([] : List Int) ++ (List.take (Int.toNat side) a.1)) ++ (List.drop (Int.toNat (IntKind.i64.wrap (side + (1 : Int)))) a.1))), (3, .arr 66 (.p (.int .i64) (.int .u64)) x.2)], 4⟩) (fun z => [(2, ⟨[(4, .raw false [(.ptr 0 0)]), (6, .raw false [(.osl 1)]), (7, .raw false [(.osl 2)])], [(0, .cells [(.c (.slice none 0 0)), (.c (.slice none 0 0))]), (1, .arr 3 (.int .i64) ((([] : List Int) ++ (List.take (Int.toNat side) a.1)) ++ (List.drop (Int.toNat (IntKind.i64.wrap (side + (1 : Int)))) a.1))), (2, .arr 66 (.p (.int .i64) (.int .u64)) z)], 3⟩)]) (loopF (fun go x => f23_l4 a side r7 go x.1 x.2)) fuelN ((0 : Int), (List.replicate (Int.toNat q3_12) (Ty.z (.p (.int .i64) (.int .u64))))) z8 (And.intro hz8 (And.intro (Exists.intro [] (Exists.intro [] (Exists.intro [] (Exists.intro [] (Exists.intro [(0, some 0), (1, some 1), (2, some 4), (3, some 5)] (And.intro rfl (And.intro rfl (And.intro rfl (And.intro rfl (And.intro rfl (And.intro rfl (And.intro (And.intro rfl (And.intro rfl (And.intro rfl (And.intro rfl trivial)))) (And.intro rfl (And.intro rfl (And.intro rfl (And.intro rfl trivial)))))))))))))))) (And.intro (fun _ _ h => loopZ h) (And.intro (fun m => curI (fun v55 => fun l3 z hF => ?_)) ?_))))
      · have hF : f23_l4 a side r7 (loopF (fun go x => f23_l4 a side r7 go x.1 x.2) m) v55 l3 = some z := hF
        unfold f23_l4 at hF
        refine Or.inl ?_
        refine Or.inl ?_
        refine condI hF (fun hF => ?_) (fun hF => ?_)
        · refine Or.inl ?_
          refine Or.inl ?_
          refine guardI hF (fun hF => ?_)
          refine Or.inl ?_
          refine Exists.intro (.take 0 (.take 1 (.take 2 (.take 3 (.take 4 (.take 5 (.take 6 (.take 7 (.take 8 (.take 9 (.take 10 (.take 11 (.take 12 (.take 13 (.take 14 (.take 15 .done)))))))))))))))) (Exists.intro [] (Exists.intro [] (And.intro rfl ?_)))
          refine guardI hF (fun hF => ?_)
          refine guardI hF (fun hF => ?_)
          refine guardI hF (fun hF => ?_)
          refine Exists.intro (.take 0 (.take 1 (.take 2 (.take 3 (.take 4 (.take 5 (.take 6 (.alt 7 (.alt 8 (.take 9 (.alt 10 .done .done)) .done) .done)))))))) (Exists.intro [(10, [3])] (Exists.intro [] (And.intro rfl ?_)))
          refine guardI hF (fun hF => ?_)
          refine And.intro trivial ?_
          obtain ⟨q10_7, hq10_7, hF⟩ := bindE hF
          refine Or.inl (And.intro f52_in (callV0 (callI C52 (rd (0 : Int) a.2 v55) q10_7 [] false C52_holds hq10_7 rfl rfl ?_)))
          refine (And.intro rfl (And.intro (fun h => nomatch h) (And.intro rfl (And.intro rfl (And.intro trivial (And.intro trivial ?_))))))
          refine And.intro trivial ?_
          obtain ⟨q10_8, hq10_8, hF⟩ := bindE hF
          refine Or.inl (And.intro f51_in (callV0 (callI C51 (((rd (Ty.z (.p (.int .i64) (.int .u64))) l3 (IntKind.i64.wrap ((IntKind.i64.wrap ((IntKind.i64.wrap (Int.tdiv v55 (IntKind.i64.wrap ((rd (0 : Int) r7 side) * (rd (0 : Int) a.1 side))))) * (rd (0 : Int) r7 side))) + (Int.tmod v55 (rd (0 : Int) r7 side))))).1, (rd (Ty.z (.p (.int .i64) (.int .u64))) l3 (IntKind.i64.wrap ((IntKind.i64.wrap ((IntKind.i64.wrap (Int.tdiv v55 (IntKind.i64.wrap ((rd (0 : Int) r7 side) * (rd (0 : Int) a.1 side))))) * (rd (0 : Int) r7 side))) + (Int.tmod v55 (rd (0 : Int) r7 side))))).2), (q10_7.1, q10_7.2)) q10_8 [] false C51_holds hq10_8 rfl rfl ?_)))
          refine (And.intro rfl (And.intro rfl (And.intro rfl (And.intro rfl (And.intro (fun h => nomatch h) (And.intro rfl (And.intro rfl (And.intro trivial (And.intro trivial ?_)))))))))
          refine guardI hF (fun hF => ?_)
          refine And.intro trivial ?_
          refine Or.inl ?_
          refine Exists.intro ((IntKind.i64.wrap (v55 + (1 : Int))), (List.set l3 (Int.toNat (IntKind.i64.wrap ((IntKind.i64.wrap ((IntKind.i64.wrap (Int.tdiv v55 (IntKind.i64.wrap ((rd (0 : Int) r7 side) * (rd (0 : Int) a.1 side))))) * (rd (0 : Int) r7 side))) + (Int.tmod v55 (rd (0 : Int) r7 side))))) (q10_8.1, q10_8.2))) (And.intro hF (Exists.intro [] (Exists.intro [] (Exists.intro [] (Exists.intro [] (Exists.intro [(0, some 0), (1, some 1), (2, some 2), (3, some 3)] (And.intro rfl (And.intro rfl (And.intro rfl (And.intro rfl (And.intro rfl (And.intro rfl (And.intro (And.intro rfl (And.intro rfl (And.intro rfl (And.intro rfl trivial)))) (And.intro rfl (And.intro rfl (And.intro rfl (And.intro rfl trivial)))))))))))))))))
        · have hz := someE hF
          subst hz
          refine Exists.intro [] (Exists.intro [] (Exists.intro [] (Exists.intro [] (Exists.intro [(0, some 1), (1, some 2), (2, some 3)] (And.intro rfl (And.intro (And.intro rfl (And.intro rfl (And.intro rfl trivial))) (And.intro rfl (And.intro rfl (And.intro rfl trivial)))))))))
      · refine And.intro ?_ trivial
        refine Or.inl ?_
        obtain ⟨q10_10, hq10_10, hF⟩ := bindE hF
        refine Or.inl (And.intro f44_in (callV0 (callI C44 (((([] : List Int) ++ (List.take (Int.toNat side) a.1)) ++ (List.drop (Int.toNat (IntKind.i64.wrap (side + (1 : Int)))) a.1)), (0 : Int)) q10_10 [] true C44_holds hq10_10 rfl rfl ?_)))
        refine (And.intro rfl (And.intro rfl (And.intro (fun _ => rfl) (And.intro rfl (And.intro rfl (And.intro trivial (And.intro trivial ?_)))))))
        refine Or.inl ?_
        refine Or.inl ?_
        refine Or.inl ?_
        obtain ⟨z9, hz9, hF⟩ := bindE hF
        refine loopI (Int × (List Int)) (List Int) (fun x => ⟨[(4, .raw false [(.ptr 0 0)]), (12, .raw false [(.ptr 1 0)]), (91, .raw false [(.osl 2)]), (92, .dat (.int .i64) (List.length z8 : Int)), (93, .dat (.int .i64) x.1)], [(0, .cells [(.c (.slice none 0 0)), (.c (.slice none 0 0))]), (1, .cells [(.osl 3), (.osl 4)]), (2, .arr 66 (.p (.int .i64) (.int .u64)) z8), (3, .arr 3 (.int .i64) q10_10.2.1), (4, .arr 24 (.int .i64) x.2)], 5⟩) (fun z => [(4, ⟨[(4, .raw false [(.ptr 0 0)]), (12, .raw false [(.ptr 1 0)])], [(0, .cells [(.c (.slice none 0 0)), (.c (.slice none 0 0))]), (1, .cells [(.osl 2), (.osl 3)]), (2, .arr 3 (.int .i64) q10_10.2.1), (3, .arr 24 (.int .i64) z)], 4⟩)]) (loopF (fun go x => f23_l5 z8 go x.1 x.2)) fuelN ((0 : Int), q10_10.2.2) z9 (And.intro hz9 (And.intro (Exists.intro [] (Exists.intro [] (Exists.intro [] (Exists.intro [] (Exists.intro [(0, some 0), (1, some 5), (2, some 2), (3, some 3), (4, some 4)] (And.intro rfl (And.intro rfl (And.intro rfl (And.intro (And.intro rfl (And.intro rfl (And.intro rfl trivial))) (And.intro rfl (And.intro rfl (And.intro rfl (And.intro rfl (And.intro rfl trivial)))))))))))))) (And.intro (fun _ _ h => loopZ h) (And.intro (fun m => curI (fun v93 => fun l4 z hF => ?_)) ?_))))
        · have hF : f23_l5 z8 (loopF (fun go x => f23_l5 z8 go x.1 x.2) m) v93 l4 = some z := hF
          unfold f23_l5 at hF
          refine Or.inl ?_
          refine Or.inl ?_
          refine condI hF (fun hF => ?_) (fun hF => ?_)
          · refine Or.inl ?_
            refine Or.inl ?_
            refine guardI hF (fun hF => ?_)
            refine Or.inl ?_
            refine Exists.intro (.take 0 (.take 1 (.take 2 (.take 3 (.alt 4 (.take 5 (.alt 6 .done .done)) .done))))) (Exists.intro [] (Exists.intro [] (And.intro rfl ?_)))
            refine And.intro trivial ?_
            obtain ⟨q16_4, hq16_4, hF⟩ := bindE hF
            refine Or.inl (And.intro f53_in (callV0 (callI C53 ((rd (Ty.z (.p (.int .i64) (.int .u64))) z8 v93).1, (rd (Ty.z (.p (.int .i64) (.int .u64))) z8 v93).2) q16_4 [] false C53_holds hq16_4 rfl rfl ?_)))
            refine (And.intro rfl (And.intro rfl (And.intro (fun h => nomatch h) (And.intro rfl (And.intro rfl (And.intro trivial (And.intro trivial ?_)))))))
            refine guardI hF (fun hF => ?_)
            refine And.intro trivial ?_
            refine Or.inl ?_
            refine Exists.intro ((IntKind.i64.wrap (v93 + (1 : Int))), (List.set l4 (Int.toNat v93) q16_4)) (And.intro hF (Exists.intro [] (Exists.intro [] (Exists.intro [] (Exists.intro [] (Exists.intro [(0, some 0), (1, some 1), (2, some 2), (3, some 3), (4, some 4)] (And.intro rfl (And.intro rfl (And.intro rfl (And.intro (And.intro rfl (And.intro rfl (And.intro rfl trivial))) (And.intro rfl (And.intro rfl (And.intro rfl (And.intro rfl (And.intro rfl trivial)))))))))))))))
          · have hz := someE hF
            subst hz
            refine Exists.intro [] (Exists.intro [] (Exists.intro [] (Exists.intro [] (Exists.intro [(0, some 0), (1, some 1), (2, some 3), (3, some 4)] (And.intro rfl (And.intro (And.intro rfl (And.intro rfl trivial)) (And.intro rfl (And.intro rfl (And.intro rfl (And.intro rfl trivial))))))))))
        · refine And.intro ?_ trivial
          refine Or.inl ?_
          refine Or.inl ?_
          have hy := someE hF
          subst hy
          refine And.intro rfl (Exists.intro [] (Exists.intro [] (Exists.intro [] (Exists.intro [] (Exists.intro [(0, some 2), (1, some 3)] (And.intro rfl (And.intro rfl (And.intro (And.intro rfl trivial) (And.intro rfl (And.intro rfl trivial))))))))))
    · dsimp only [sumF] at hF
      refine And.intro ?_ trivial
      have hy := someE hF
      subst hy
      refine And.intro rfl (Exists.intro [] (Exists.intro [] (Exists.intro [] (Exists.intro [] (Exists.intro [(0, none), (1, none)] (And.intro rfl (And.intro rfl (And.intro (And.intro rfl trivial) (And.intro rfl (And.intro rfl trivial))))))))))
theorem C23_holds : C23.Holds Try.prog 23 := holds_of_vc tab_ok mixed (fn := Try.f23) (by kernel_rfl) rfl C23 (fun x y hF => C23_vc x.1 x.2 y hF)
theorem f23_in : ∃ fn, Try.prog.funcs[23]? = some fn ∧ fn.body.isSome = true ∧ (fn.name == "runtime.NumGoroutine") = false := ⟨Try.f23, by kernel_rfl, by kernel_rfl, by kernel_rfl⟩
end Go.Proofs
namespace Go.Proofs
open Go.AM
-- carousel/matm.total
def f54_l1 (v : List Int) (go : (Int × Int × Int) → Option (Int × Int)) (v9 : Int) (c1_0 : Int) (c1_1 : Int) : Option (Int × Int) :=
  bif (decide (v9 < (List.length v : Int))) then
    guardF (0 ≤ v9 ∧ v9 < (List.length v : Int)) <|
    bindF (f52 (rd (0 : Int) v v9)) fun q5_2 =>
    bindF (f51 (c1_0, c1_1) (q5_2.1, q5_2.2)) fun q5_3 =>
    go ((IntKind.i64.wrap (v9 + (1 : Int))), q5_3.1, q5_3.2)
  else
    some (c1_0, c1_1)
def f54 (v : List Int) : Option (Int × Int) :=
  bindF (loopF (fun go x => f54_l1 v go x.1 x.2.1 x.2.2) fuelN ((0 : Int), (0 : Int), (0 : Int))) fun z1 =>
  some (z1.1, z1.2)
def C54 : Con where
  X := List Int
  Y := Int × Int
  e := 0
  args x := [.dat (.sl (.int .i64)) x]
  hin x := []
  F x := f54 x
  ret y := [.raw true [(.d (.int .i64) y.1), (.d (.int .u64) y.2)]]
  hout y := []
  nout := 0
theorem C54_vc (v : List Int) (y : Int × Int) (hF : f54 v = some y) : vc Try.prog tab Try.f54.ntmps 0 (match Try.f54.body with | some c => c | none => .skip) (retK tab C54 Try.f54.results.toList y) (C54.shIn v).st := by
  unfold f54 at hF
  refine Or.inl ?_
  refine Or.inl ?_
  refine Or.inl ?_
  refine Or.inl ?_
  refine Or.inl ?_
  obtain ⟨z1, hz1, hF⟩ := bindE hF
  refine loopI (Int × Int × Int) (Int × Int) (fun x => ⟨[(2, .raw false [(.ptr 0 0)]), (3, .raw false [(.ptr 1 0)]), (7, .dat (.sl (.int .i64)) v), (8, .dat (.int .i64) (List.length v : Int)), (9, .dat (.int .i64) x.1)], [(0, .cells [(.d (.int .i64) (0 : Int)), (.d (.int .u64) (0 : Int))]), (1, .cells [(.d (.int .i64) x.2.1), (.d (.int .u64) x.2.2)])], 2⟩) (fun z => [(2, ⟨[(2, .raw false [(.ptr 0 0)]), (3, .raw false [(.ptr 1 0)])], [(0, .cells [(.d (.int .i64) (0 : Int)), (.d (.int .u64) (0 : Int))]), (1, .cells [(.d (.int .i64) z.1), (.d (.int .u64) z.2)])], 2⟩)]) (loopF (fun go x => f54_l1 v go x.1 x.2.1 x.2.2)) fuelN ((0 : Int), (0 : Int), (0 : Int)) z1 (And.intro hz1 (And.intro (Exists.intro [] (Exists.intro [] (Exists.intro [] (Exists.intro [] (Exists.intro [(0, some 0), (1, some 1)] (And.intro rfl (And.intro rfl (And.intro rfl (And.intro rfl (And.intro (And.intro rfl (And.intro rfl trivial)) (And.intro rfl (And.intro rfl trivial)))))))))))) (And.intro (fun _ _ h => loopZ h) (And.intro (fun m => curI (fun v9 => curI (fun c1_0 => fun c1_1 z hF => ?_))) ?_))))
  · have hF : f54_l1 v (loopF (fun go x => f54_l1 v go x.1 x.2.1 x.2.2) m) v9 c1_0 c1_1 = some z := hF
    unfold f54_l1 at hF
    refine Or.inl ?_
    refine Or.inl ?_
    refine condI hF (fun hF => ?_) (fun hF => ?_)
    · refine Or.inl ?_
      refine Or.inl ?_
      refine guardI hF (fun hF => ?_)
      refine Exists.intro (.take 0 (.take 1 (.alt 2 (.alt 3 (.alt 4 .done .done) .done) .done))) (Exists.intro [(4, [1])] (Exists.intro [] (And.intro rfl ?_)))
      refine And.intro trivial ?_
      obtain ⟨q5_2, hq5_2, hF⟩ := bindE hF
      refine Or.inl (And.intro f52_in (callV0 (callI C52 (rd (0 : Int) v v9) q5_2 [] false C52_holds hq5_2 rfl rfl ?_)))
      refine (And.intro rfl (And.intro (fun h => nomatch h) (And.intro rfl (And.intro rfl (And.intro trivial (And.intro trivial ?_))))))
      refine And.intro trivial ?_
      obtain ⟨q5_3, hq5_3, hF⟩ := bindE hF
      refine Or.inl (And.intro f51_in (callV0 (callI C51 ((c1_0, c1_1), (q5_2.1, q5_2.2)) q5_3 [] false C51_holds hq5_3 rfl rfl ?_)))
      refine (And.intro rfl (And.intro rfl (And.intro rfl (And.intro rfl (And.intro (fun h => nomatch h) (And.intro rfl (And.intro rfl (And.intro trivial (And.intro trivial ?_)))))))))
      refine And.intro trivial ?_
      refine Or.inl ?_
      refine Exists.intro ((IntKind.i64.wrap (v9 + (1 : Int))), q5_3.1, q5_3.2) (And.intro hF (Exists.intro [] (Exists.intro [] (Exists.intro [] (Exists.intro [] (Exists.intro [(0, some 0), (1, some 1)] (And.intro rfl (And.intro rfl (And.intro rfl (And.intro rfl (And.intro (And.intro rfl (And.intro rfl trivial)) (And.intro rfl (And.intro rfl trivial)))))))))))))
    · have hz := someE hF
      subst hz
      refine Exists.intro [] (Exists.intro [] (Exists.intro [] (Exists.intro [] (Exists.intro [(0, some 0), (1, some 1)] (And.intro rfl (And.intro (And.intro rfl (And.intro rfl trivial)) (And.intro rfl (And.intro rfl trivial))))))))
  · refine And.intro ?_ trivial
    refine Or.inl ?_
    refine Or.inl ?_
    have hy := someE hF
    subst hy
    refine And.intro rfl (Exists.intro [] (Exists.intro [] (Exists.intro [] (Exists.intro [] (Exists.intro [] (And.intro rfl (And.intro (And.intro rfl trivial) trivial)))))))
theorem C54_holds : C54.Holds Try.prog 54 := holds_of_vc tab_ok mixed (fn := Try.f54) (by kernel_rfl) rfl C54 (fun x y hF => C54_vc x y hF)
theorem f54_in : ∃ fn, Try.prog.funcs[54]? = some fn ∧ fn.body.isSome = true ∧ (fn.name == "runtime.NumGoroutine") = false := ⟨Try.f54, by kernel_rfl, by kernel_rfl, by kernel_rfl⟩
end Go.Proofs
namespace Go.Proofs
open Go.AM
-- carousel/matm.All
def f24 (a : (List Int) × (List Int)) : Option (Int × Int) :=
  bindF (f42 (a.1, a.2)) fun r1 =>
  bif (!r1) then
    some ((0 : Int), (1 : Int))
  else
    bindF (f54 a.2) fun r2 =>
    bindF (f53 (r2.1, r2.2)) fun r3 =>
    some (r3, (0 : Int))
def C24 : Con where
  X := (List Int) × (List Int)
  Y := Int × Int
  e := 0
  args x := [.dat (.p (.sl (.int .i64)) (.sl (.int .i64))) x]
  hin x := []
  F x := f24 x
  ret y := [.dat (.int .i64) y.1, .dat (.int .i64) y.2]
  hout y := []
  nout := 0
theorem C24_vc (a : (List Int) × (List Int)) (y : Int × Int) (hF : f24 a = some y) : vc Try.prog tab Try.f24.ntmps 0 (match Try.f24.body with | some c => c | none => .skip) (retK tab C24 Try.f24.results.toList y) (C24.shIn a).st := by
  unfold f24 at hF
  refine Or.inl ?_
  refine Or.inl ?_
  refine Or.inl ?_
  obtain ⟨r1, hr1, hF⟩ := bindE hF
  refine Or.inl (And.intro f42_in (callV0 (callI C42 (a.1, a.2) r1 [] false C42_holds hr1 rfl rfl ?_)))
  refine (And.intro rfl (And.intro rfl (And.intro (fun h => nomatch h) (And.intro rfl (And.intro rfl (And.intro trivial (And.intro trivial ?_)))))))
  refine condI hF (fun hF => ?_) (fun hF => ?_)
  · refine Or.inl ?_
    have hy := someE hF
    subst hy
    refine And.intro rfl (Exists.intro [] (Exists.intro [] (Exists.intro [] (Exists.intro [] (Exists.intro [] (And.intro rfl (And.intro rfl (And.intro rfl (And.intro trivial trivial)))))))))
  · refine Or.inl ?_
    obtain ⟨r2, hr2, hF⟩ := bindE hF
    refine Or.inl (And.intro f54_in (callV0 (callI C54 a.2 r2 [] false C54_holds hr2 rfl rfl ?_)))
    refine (And.intro rfl (And.intro (fun h => nomatch h) (And.intro rfl (And.intro rfl (And.intro trivial (And.intro trivial ?_))))))
    obtain ⟨r3, hr3, hF⟩ := bindE hF
    refine Or.inl (And.intro f53_in (callV0 (callI C53 (r2.1, r2.2) r3 [] false C53_holds hr3 rfl rfl ?_)))
    refine (And.intro rfl (And.intro rfl (And.intro (fun h => nomatch h) (And.intro rfl (And.intro rfl (And.intro trivial (And.intro trivial ?_)))))))
    have hy := someE hF
    subst hy
    refine And.intro rfl (Exists.intro [] (Exists.intro [] (Exists.intro [] (Exists.intro [] (Exists.intro [] (And.intro rfl (And.intro rfl (And.intro rfl (And.intro trivial trivial)))))))))
theorem C24_holds : C24.Holds Try.prog 24 := holds_of_vc tab_ok mixed (fn := Try.f24) (by kernel_rfl) rfl C24 (fun x y hF => C24_vc x y hF)
theorem f24_in : ∃ fn, Try.prog.funcs[24]? = some fn ∧ fn.body.isSome = true ∧ (fn.name == "runtime.NumGoroutine") = false := ⟨Try.f24, by kernel_rfl, by kernel_rfl, by kernel_rfl⟩
end Go.Proofs
namespace Go.Proofs
open Go.AM
-- carousel/wide.Cmp
def f82_j1 (a : Int × Int) (b : Int × Int) : Option Bool :=
  bif (decide (a.1 < b.1)) then
    some true
  else
    bif (a.1 == b.1) then
      some (decide (a.2 < b.2))
    else
      some false
def f82 (a : Int × Int) (b : Int × Int) : Option Int :=
  bindF (f82_j1 a b) fun z1 =>
  bif z1 then
    some (-1 : Int)
  else
    bif (a.1 == b.1 && a.2 == b.2) then
      some (0 : Int)
    else
      some (1 : Int)
def C82 : Con where
  X := (Int × Int) × (Int × Int)
  Y := Int
  e := 0
  args x := [.dat (.p (.int .i64) (.int .u64)) x.1, .dat (.p (.int .i64) (.int .u64)) x.2]
  hin x := []
  F x := f82 x.1 x.2
  ret y := [.dat (.int .i64) y]
  hout y := []
  nout := 0
theorem C82_vc (a : Int × Int) (b : Int × Int) (y : Int) (hF : f82 a b = some y) : vc Try.prog tab Try.f82.ntmps 0 (match Try.f82.body with | some c => c | none => .skip) (retK tab C82 Try.f82.results.toList y) (C82.shIn (a, b)).st := by
  unfold f82 at hF
  refine Or.inl ?_
  refine Or.inl ?_
  obtain ⟨z1, hz1, hF⟩ := bindE hF
  refine Or.inr ⟨[(0, ⟨[(2, .raw false [(.ptr 0 0)]), (3, .raw false [(.ptr 1 0)]), (5, .dat .bool z1)], [(0, .cells [(.d (.int .i64) a.1), (.d (.int .u64) a.2)]), (1, .cells [(.d (.int .i64) b.1), (.d (.int .u64) b.2)])], 2⟩)], ?_, ?_⟩
  · have hF := hz1
    clear hz1
    unfold f82_j1 at hF
    refine condN hF (fun hF => ?_) (fun hF => ?_)
    · refine gdYF ?_
      refine gdYF ?_
      refine gdYF ?_
      refine gdYF ?_
      refine gdYF ?_
      refine condI hF (fun hF => ?_) (fun hF => ?_)
      · refine gdYT ?_
        refine gdYT ?_
        refine gdYT ?_
        refine gdYT ?_
        refine gdYF ?_
        refine condT ?_
        refine condF ?_
        have hz := someE hF
        subst hz
        refine Exists.intro [] (Exists.intro [] (Exists.intro [] (Exists.intro [] (Exists.intro [(0, some 0), (1, some 1)] (And.intro rfl (And.intro rfl (And.intro (And.intro rfl (And.intro rfl trivial)) (And.intro rfl (And.intro rfl trivial)))))))))
      · refine gdNT ?_
        refine gdNT ?_
        refine gdNT ?_
        refine gdNT ?_
        refine gdYF ?_
        refine condF ?_
        refine condF ?_
        have hz := someE hF
        subst hz
        refine Exists.intro [] (Exists.intro [] (Exists.intro [] (Exists.intro [] (Exists.intro [(0, some 0), (1, some 1)] (And.intro rfl (And.intro rfl (And.intro (And.intro rfl (And.intro rfl trivial)) (And.intro rfl (And.intro rfl trivial)))))))))
    · refine gdNF ?_
      refine gdNF ?_
      refine gdNF ?_
      refine gdNF ?_
      refine gdNF ?_
      refine gdNF ?_
      refine condT ?_
      have hz := someE hF
      subst hz
      refine Exists.intro [] (Exists.intro [] (Exists.intro [] (Exists.intro [] (Exists.intro [(0, some 0), (1, some 1)] (And.intro rfl (And.intro rfl (And.intro (And.intro rfl (And.intro rfl trivial)) (And.intro rfl (And.intro rfl trivial)))))))))
  · refine And.intro ?_ trivial
    refine condI hF (fun hF => ?_) (fun hF => ?_)
    · refine Or.inl ?_
      have hy := someE hF
      subst hy
      refine And.intro rfl (Exists.intro [] (Exists.intro [] (Exists.intro [] (Exists.intro [] (Exists.intro [] (And.intro rfl (And.intro rfl (And.intro trivial trivial))))))))
    · refine Or.inl ?_
      refine And.intro ⟨by kernel_rfl, by kernel_rfl, by decide, by decide⟩ ?_
      refine condI hF (fun hF => ?_) (fun hF => ?_)
      · refine Or.inl ?_
        have hy := someE hF
        subst hy
        refine And.intro rfl (Exists.intro [] (Exists.intro [] (Exists.intro [] (Exists.intro [] (Exists.intro [] (And.intro rfl (And.intro rfl (And.intro trivial trivial))))))))
      · refine Or.inl ?_
        have hy := someE hF
        subst hy
        refine And.intro rfl (Exists.intro [] (Exists.intro [] (Exists.intro [] (Exists.intro [] (Exists.intro [] (And.intro rfl (And.intro rfl (And.intro trivial trivial))))))))
theorem C82_holds : C82.Holds Try.prog 82 := holds_of_vc tab_ok mixed (fn := Try.f82) (by kernel_rfl) rfl C82 (fun x y hF => C82_vc x.1 x.2 y hF)
theorem f82_in : ∃ fn, Try.prog.funcs[82]? = some fn ∧ fn.body.isSome = true ∧ (fn.name == "runtime.NumGoroutine") = false := ⟨Try.f82, by kernel_rfl, by kernel_rfl, by kernel_rfl⟩
end Go.Proofs
namespace Go.Proofs
open Go.AM
-- carousel/fix.size
def f98 (v : Int) : Option Int :=
  bif (decide (v < (0 : Int))) then
    some (IntKind.u64.wrap (0 - (IntKind.u64.wrap v)))
  else
    some (IntKind.u64.wrap v)
def C98 : Con where
  X := Int
  Y := Int
  e := 0
  args x := [.dat (.int .i64) x]
  hin x := []
  F x := f98 x
  ret y := [.dat (.int .u64) y]
  hout y := []
  nout := 0
theorem C98_vc (v : Int) (y : Int) (hF : f98 v = some y) : vc Try.prog tab Try.f98.ntmps 0 (match Try.f98.body with | some c => c | none => .skip) (retK tab C98 Try.f98.results.toList y) (C98.shIn v).st := by
  unfold f98 at hF
  refine Or.inl ?_
  refine Or.inl ?_
  refine Or.inl ?_
  refine condI hF (fun hF => ?_) (fun hF => ?_)
  · refine Or.inl ?_
    have hy := someE hF
    subst hy
    refine And.intro rfl (Exists.intro [] (Exists.intro [] (Exists.intro [] (Exists.intro [] (Exists.intro [] (And.intro rfl (And.intro rfl (And.intro trivial trivial))))))))
  · refine Or.inl ?_
    have hy := someE hF
    subst hy
    refine And.intro rfl (Exists.intro [] (Exists.intro [] (Exists.intro [] (Exists.intro [] (Exists.intro [] (And.intro rfl (And.intro rfl (And.intro trivial trivial))))))))
theorem C98_holds : C98.Holds Try.prog 98 := holds_of_vc tab_ok mixed (fn := Try.f98) (by kernel_rfl) rfl C98 (fun x y hF => C98_vc x y hF)
theorem f98_in : ∃ fn, Try.prog.funcs[98]? = some fn ∧ fn.body.isSome = true ∧ (fn.name == "runtime.NumGoroutine") = false := ⟨Try.f98, by kernel_rfl, by kernel_rfl, by kernel_rfl⟩
end Go.Proofs
namespace Go.Proofs
open Go.AM
-- carousel/fix.held
def f99_j1 (hi : Int) (lo : Int) (below : Bool) : Option Bool :=
  bif below then
    bif (decide (hi > (0 : Int))) then
      some true
    else
      some (decide (lo ≥ (9223372036854775808 : Int)))
  else
    some false
def f99 (hi : Int) (lo : Int) (below : Bool) : Option Int :=
  bindF (f99_j1 hi lo below) fun z1 =>
  bif z1 then
    some (-9223372036854775808 : Int)
  else
    bif below then
      some (IntKind.i64.wrap (0 - (IntKind.i64.wrap lo)))
    else
      bif (decide (hi > (0 : Int))) then
        some (9223372036854775807 : Int)
      else
        bif (decide (lo ≥ (9223372036854775808 : Int))) then
          some (9223372036854775807 : Int)
        else
          some (IntKind.i64.wrap lo)
def C99 : Con where
  X := Int × Int × Bool
  Y := Int
  e := 0
  args x := [.dat (.int .u64) x.1, .dat (.int .u64) x.2.1, .dat .bool x.2.2]
  hin x := []
  F x := f99 x.1 x.2.1 x.2.2
  ret y := [.dat (.int .i64) y]
  hout y := []
  nout := 0
theorem C99_vc (hi : Int) (lo : Int) (below : Bool) (y : Int) (hF : f99 hi lo below = some y) : vc Try.prog tab Try.f99.ntmps 0 (match Try.f99.body with | some c => c | none => .skip) (retK tab C99 Try.f99.results.toList y) (C99.shIn (hi, lo, below)).st := by
  unfold f99 at hF
  refine Or.inl ?_
  refine Or.inl ?_
  obtain ⟨z1, hz1, hF⟩ := bindE hF
  refine Or.inr ⟨[(0, ⟨[(0, .dat (.int .u64) hi), (1, .dat (.int .u64) lo), (2, .dat .bool below), (7, .dat .bool z1)], [], 0⟩)], ?_, ?_⟩
  · have hF := hz1
    clear hz1
    unfold f99_j1 at hF
    refine condI hF (fun hF => ?_) (fun hF => ?_)
    · refine gdYT ?_
      refine gdYT ?_
      refine condN hF (fun hF => ?_) (fun hF => ?_)
      · refine gdYF ?_
        refine gdYT ?_
        refine condF ?_
        refine condT ?_
        have hz := someE hF
        subst hz
        refine Exists.intro [] (Exists.intro [] (Exists.intro [] (Exists.intro [] (Exists.intro [] (And.intro rfl (And.intro rfl (And.intro rfl (And.intro rfl (And.intro rfl (And.intro trivial trivial))))))))))
      · refine gdNF ?_
        refine gdYT ?_
        refine condT ?_
        refine condT ?_
        have hz := someE hF
        subst hz
        refine Exists.intro [] (Exists.intro [] (Exists.intro [] (Exists.intro [] (Exists.intro [] (And.intro rfl (And.intro rfl (And.intro rfl (And.intro rfl (And.intro rfl (And.intro trivial trivial))))))))))
    · refine gdNT ?_
      refine gdNT ?_
      refine gdNT ?_
      refine condF ?_
      have hz := someE hF
      subst hz
      refine Exists.intro [] (Exists.intro [] (Exists.intro [] (Exists.intro [] (Exists.intro [] (And.intro rfl (And.intro rfl (And.intro rfl (And.intro rfl (And.intro rfl (And.intro trivial trivial))))))))))
  · refine And.intro ?_ trivial
    refine condI hF (fun hF => ?_) (fun hF => ?_)
    · refine Or.inl ?_
      have hy := someE hF
      subst hy
      refine And.intro rfl (Exists.intro [] (Exists.intro [] (Exists.intro [] (Exists.intro [] (Exists.intro [] (And.intro rfl (And.intro rfl (And.intro trivial trivial))))))))
    · refine Or.inl ?_
      refine condI hF (fun hF => ?_) (fun hF => ?_)
      · refine Or.inl ?_
        have hy := someE hF
        subst hy
        refine And.intro rfl (Exists.intro [] (Exists.intro [] (Exists.intro [] (Exists.intro [] (Exists.intro [] (And.intro rfl (And.intro rfl (And.intro trivial trivial))))))))
      · refine Or.inl ?_
        refine condN hF (fun hF => ?_) (fun hF => ?_)
        · refine gdYF ?_
          refine condF ?_
          refine condI hF (fun hF => ?_) (fun hF => ?_)
          · refine Or.inl ?_
            have hy := someE hF
            subst hy
            refine And.intro rfl (Exists.intro [] (Exists.intro [] (Exists.intro [] (Exists.intro [] (Exists.intro [] (And.intro rfl (And.intro rfl (And.intro trivial trivial))))))))
          · refine Or.inl ?_
            have hy := someE hF
            subst hy
            refine And.intro rfl (Exists.intro [] (Exists.intro [] (Exists.intro [] (Exists.intro [] (Exists.intro [] (And.intro rfl (And.intro rfl (And.intro trivial trivial))))))))
        · refine gdNF ?_
          refine condT ?_
          refine condT ?_
          refine Or.inl ?_
          have hy := someE hF
          subst hy
          refine And.intro rfl (Exists.intro [] (Exists.intro [] (Exists.intro [] (Exists.intro [] (Exists.intro [] (And.intro rfl (And.intro rfl (And.intro trivial trivial))))))))
theorem C99_holds : C99.Holds Try.prog 99 := holds_of_vc tab_ok mixed (fn := Try.f99) (by kernel_rfl) rfl C99 (fun x y hF => C99_vc x.1 x.2.1 x.2.2 y hF)
theorem f99_in : ∃ fn, Try.prog.funcs[99]? = some fn ∧ fn.body.isSome = true ∧ (fn.name == "runtime.NumGoroutine") = false := ⟨Try.f99, by kernel_rfl, by kernel_rfl, by kernel_rfl⟩
end Go.Proofs
namespace Go.Proofs
open Go.AM
-- math/bits.Len64
def f114_s1 : ByteArray := ⟨⟨[0, 1, 2, 2, 3, 3, 3, 3, 4, 4, 4, 4, 4, 4, 4, 4, 5, 5, 5, 5, 5, 5, 5, 5, 5, 5, 5, 5, 5, 5, 5, 5, 6, 6, 6, 6, 6, 6, 6, 6, 6, 6, 6, 6, 6, 6, 6, 6, 6, 6, 6, 6, 6, 6, 6, 6, 6, 6, 6, 6, 6, 6, 6, 6, 7, 7, 7, 7, 7, 7, 7, 7, 7, 7, 7, 7, 7, 7, 7, 7, 7, 7, 7, 7, 7, 7, 7, 7, 7, 7, 7, 7, 7, 7, 7, 7, 7, 7, 7, 7, 7, 7, 7, 7, 7, 7, 7, 7, 7, 7, 7, 7, 7, 7, 7, 7, 7, 7, 7, 7, 7, 7, 7, 7, 7, 7, 7, 7, 8, 8, 8, 8, 8, 8, 8, 8, 8, 8, 8, 8, 8, 8, 8, 8, 8, 8, 8, 8, 8, 8, 8, 8, 8, 8, 8, 8, 8, 8, 8, 8, 8, 8, 8, 8, 8, 8, 8, 8, 8, 8, 8, 8, 8, 8, 8, 8, 8, 8, 8, 8, 8, 8, 8, 8, 8, 8, 8, 8, 8, 8, 8, 8, 8, 8, 8, 8, 8, 8, 8, 8, 8, 8, 8, 8, 8, 8, 8, 8, 8, 8, 8, 8, 8, 8, 8, 8, 8, 8, 8, 8, 8, 8, 8, 8, 8, 8, 8, 8, 8, 8, 8, 8, 8, 8, 8, 8, 8, 8, 8, 8, 8, 8, 8, 8, 8, 8, 8, 8, 8, 8, 8, 8, 8, 8, 8, 8]⟩⟩
def f114_j1 (x_ : Int) : Option (Int × Int) :=
  bif (decide (x_ ≥ (4294967296 : Int))) then
    some ((Int.fdiv x_ (2 ^ min (Int.toNat (32 : Int)) (IntKind.bits IntKind.u64))), (32 : Int))
  else
    some (x_, (0 : Int))
def f114_j2 (z1 : Int × Int) : Option (Int × Int) :=
  bif (decide (z1.1 ≥ (65536 : Int))) then
    some ((Int.fdiv z1.1 (2 ^ min (Int.toNat (16 : Int)) (IntKind.bits IntKind.u64))), (IntKind.i64.wrap (z1.2 + (16 : Int))))
  else
    some (z1.1, z1.2)
def f114_j3 (z2 : Int × Int) : Option (Int × Int) :=
  bif (decide (z2.1 ≥ (256 : Int))) then
    some ((Int.fdiv z2.1 (2 ^ min (Int.toNat (8 : Int)) (IntKind.bits IntKind.u64))), (IntKind.i64.wrap (z2.2 + (8 : Int))))
  else
    some (z2.1, z2.2)
def f114 (x_ : Int) : Option Int :=
  bindF (f114_j1 x_) fun z1 =>
  bindF (f114_j2 z1) fun z2 =>
  bindF (f114_j3 z2) fun z3 =>
  guardF (0 ≤ (IntKind.u8.wrap z3.1) ∧ (IntKind.u8.wrap z3.1) < (ByteArray.size f114_s1 : Int)) <|
  some (IntKind.i64.wrap (z3.2 + (IntKind.i64.wrap (bt f114_s1 (IntKind.u8.wrap z3.1)))))
def C114 : Con where
  X := Int
  Y := Int
  e := 0
  args x := [.dat (.int .u64) x]
  hin x := []
  F x := f114 x
  ret y := [.dat (.int .i64) y]
  hout y := []
  nout := 0
theorem C114_vc (x_ : Int) (y : Int) (hF : f114 x_ = some y) : vc Try.prog tab Try.f114.ntmps 0 (match Try.f114.body with | some c => c | none => .skip) (retK tab C114 Try.f114.results.toList y) (C114.shIn x_).st := by
  unfold f114 at hF
  refine Or.inl ?_
  obtain ⟨z1, hz1, hF⟩ := bindE hF
  refine Or.inr ⟨[(0, ⟨[(0, .dat (.int .u64) z1.1), (2, .dat (.int .i64) z1.2)], [], 0⟩)], ?_, ?_⟩
  · have hF := hz1
    clear hz1
    unfold f114_j1 at hF
    refine Or.inl ?_
    refine condI hF (fun hF => ?_) (fun hF => ?_)
    · refine Or.inl ?_
      refine And.intro (by decide) ?_
      have hz := someE hF
      subst hz
      refine Exists.intro [] (Exists.intro [] (Exists.intro [] (Exists.intro [] (Exists.intro [] (And.intro rfl (And.intro rfl (And.intro rfl (And.intro trivial trivial))))))))
    · have hz := someE hF
      subst hz
      refine Exists.intro [] (Exists.intro [] (Exists.intro [] (Exists.intro [] (Exists.intro [] (And.intro rfl (And.intro rfl (And.intro rfl (And.intro trivial trivial))))))))
  · refine And.intro ?_ trivial
    obtain ⟨z2, hz2, hF⟩ := bindE hF
    refine Or.inr ⟨[(0, ⟨[(0, .dat (.int .u64) z2.1), (2, .dat (.int .i64) z2.2)], [], 0⟩)], ?_, ?_⟩
    · have hF := hz2
      clear hz2
      unfold f114_j2 at hF
      refine Or.inl ?_
      refine condI hF (fun hF => ?_) (fun hF => ?_)
      · refine Or.inl ?_
        refine And.intro (by decide) ?_
        have hz := someE hF
        subst hz
        refine Exists.intro [] (Exists.intro [] (Exists.intro [] (Exists.intro [] (Exists.intro [] (And.intro rfl (And.intro rfl (And.intro rfl (And.intro trivial trivial))))))))
      · have hz := someE hF
        subst hz
        refine Exists.intro [] (Exists.intro [] (Exists.intro [] (Exists.intro [] (Exists.intro [] (And.intro rfl (And.intro rfl (And.intro rfl (And.intro trivial trivial))))))))
    · refine And.intro ?_ trivial
      obtain ⟨z3, hz3, hF⟩ := bindE hF
      refine Or.inr ⟨[(0, ⟨[(0, .dat (.int .u64) z3.1), (2, .dat (.int .i64) z3.2)], [], 0⟩)], ?_, ?_⟩
      · have hF := hz3
        clear hz3
        unfold f114_j3 at hF
        refine Or.inl ?_
        refine condI hF (fun hF => ?_) (fun hF => ?_)
        · refine Or.inl ?_
          refine And.intro (by decide) ?_
          have hz := someE hF
          subst hz
          refine Exists.intro [] (Exists.intro [] (Exists.intro [] (Exists.intro [] (Exists.intro [] (And.intro rfl (And.intro rfl (And.intro rfl (And.intro trivial trivial))))))))
        · have hz := someE hF
          subst hz
          refine Exists.intro [] (Exists.intro [] (Exists.intro [] (Exists.intro [] (Exists.intro [] (And.intro rfl (And.intro rfl (And.intro rfl (And.intro trivial trivial))))))))
      · refine And.intro ?_ trivial
        refine Or.inl ?_
        refine guardI hF (fun hF => ?_)
        have hy := someE hF
        subst hy
        refine And.intro rfl (Exists.intro [] (Exists.intro [] (Exists.intro [] (Exists.intro [] (Exists.intro [] (And.intro rfl (And.intro rfl (And.intro trivial trivial))))))))
theorem C114_holds : C114.Holds Try.prog 114 := holds_of_vc tab_ok mixed (fn := Try.f114) (by kernel_rfl) rfl C114 (fun x y hF => C114_vc x y hF)
theorem f114_in : ∃ fn, Try.prog.funcs[114]? = some fn ∧ fn.body.isSome = true ∧ (fn.name == "runtime.NumGoroutine") = false := ⟨Try.f114, by kernel_rfl, by kernel_rfl, by kernel_rfl⟩
end Go.Proofs
namespace Go.Proofs
open Go.AM
-- math/bits.LeadingZeros64
def f103 (x_ : Int) : Option Int :=
  bindF (f114 x_) fun r1 =>
  some (IntKind.i64.wrap ((64 : Int) - r1))
def C103 : Con where
  X := Int
  Y := Int
  e := 0
  args x := [.dat (.int .u64) x]
  hin x := []
  F x := f103 x
  ret y := [.dat (.int .i64) y]
  hout y := []
  nout := 0
theorem C103_vc (x_ : Int) (y : Int) (hF : f103 x_ = some y) : vc Try.prog tab Try.f103.ntmps 0 (match Try.f103.body with | some c => c | none => .skip) (retK tab C103 Try.f103.results.toList y) (C103.shIn x_).st := by
  unfold f103 at hF
  refine Or.inl ?_
  refine Or.inl ?_
  obtain ⟨r1, hr1, hF⟩ := bindE hF
  refine Or.inl (And.intro f114_in (callV0 (callI C114 x_ r1 [] false C114_holds hr1 rfl rfl ?_)))
  refine (And.intro rfl (And.intro (fun h => nomatch h) (And.intro rfl (And.intro rfl (And.intro trivial (And.intro trivial ?_))))))
  have hy := someE hF
  subst hy
  refine And.intro rfl (Exists.intro [] (Exists.intro [] (Exists.intro [] (Exists.intro [] (Exists.intro [] (And.intro rfl (And.intro rfl (And.intro trivial trivial))))))))
theorem C103_holds : C103.Holds Try.prog 103 := holds_of_vc tab_ok mixed (fn := Try.f103) (by kernel_rfl) rfl C103 (fun x y hF => C103_vc x y hF)
theorem f103_in : ∃ fn, Try.prog.funcs[103]? = some fn ∧ fn.body.isSome = true ∧ (fn.name == "runtime.NumGoroutine") = false := ⟨Try.f103, by kernel_rfl, by kernel_rfl, by kernel_rfl⟩
end Go.Proofs
