import Derived.Test.YtmkekohdmdjdlaaMatmAlikeF0
set_option linter.unusedVariables false
set_option maxRecDepth 100000
set_option maxHeartbeats 8000000
namespace Go.Proofs
open Go.AM
-- carousel/wide.Fix
def f53_j3 (a : Int × Int) : Option Bool :=
  bif (decide (a.1 > (0 : Int))) then
    some true
  else
    bif (a.1 == (0 : Int)) then
      some (decide (a.2 ≥ (9223372036854775808 : Int)))
    else
      some false
def f53_j2 (a : Int × Int) : Option (Sum Unit Int) :=
  bindF (f53_j3 a) fun z3 =>
  bif z3 then
    some (Sum.inr (9223372036854775807 : Int))
  else
    bif (decide (a.1 < (-1 : Int))) then
      some (Sum.inr (-9223372036854775808 : Int))
    else
      bif (a.1 == (-1 : Int)) then
        bif (decide (a.2 < (9223372036854775808 : Int))) then
          some (Sum.inr (-9223372036854775808 : Int))
        else
          some (Sum.inl ())
      else
        some (Sum.inl ())
def f53 (a : Int × Int) : Option Int :=
  bindF (f53_j2 a) fun z2 =>
  sumF z2 (fun z2a =>
    some (IntKind.i64.wrap a.2)) (fun z2b =>
    some z2b)
def C53 : Con where
  X := Int × Int
  Y := Int
  e := 0
  args x := [.dat (.p (.int .i64) (.int .u64)) x]
  hin x := []
  F x := f53 x
  ret y := [.dat (.int .i64) y]
  hout y := []
  nout := 0
theorem C53_vc (a : Int × Int) (y : Int) (hF : f53 a = some y) : vc Try.prog tab Try.f53.ntmps 0 (match Try.f53.body with | some c => c | none => .skip) (retK tab C53 Try.f53.results.toList y) (C53.shIn a).st := by
  unfold f53 at hF
  refine Or.inl ?_
  obtain ⟨z2, hz2, hF⟩ := bindE hF
  refine Or.inr ⟨Sum.elim (fun z2a => [(0, ⟨[(1, .raw false [(.ptr 0 0)])], [(0, .cells [(.d (.int .i64) a.1), (.d (.int .u64) a.2)])], 1⟩)]) (fun z2b => [(1, ⟨[(2, .dat (.int .i64) z2b)], [], 0⟩)]) z2, ?_, ?_⟩
  · have hF := hz2
    clear hz2
    unfold f53_j2 at hF
    obtain ⟨z3, hz3, hF⟩ := bindE hF
    refine Or.inr ⟨[(0, ⟨[(1, .raw false [(.ptr 0 0)]), (3, .dat .bool z3)], [(0, .cells [(.d (.int .i64) a.1), (.d (.int .u64) a.2)])], 1⟩)], ?_, ?_⟩
    · have hF := hz3
      clear hz3
      unfold f53_j3 at hF
      refine condN hF (fun hF => ?_) (fun hF => ?_)
      · refine gdYF ?_
        refine gdYF ?_
        refine gdYF ?_
        refine condI hF (fun hF => ?_) (fun hF => ?_)
        · refine gdYT ?_
          refine gdYT ?_
          refine gdYF ?_
          refine condT ?_
          refine condF ?_
          have hz := someE hF
          subst hz
          refine Exists.intro [] (Exists.intro [] (Exists.intro [] (Exists.intro [] (Exists.intro [(0, some 0)] (And.intro rfl (And.intro rfl (And.intro (And.intro rfl trivial) (And.intro rfl trivial))))))))
        · refine gdNT ?_
          refine gdNT ?_
          refine gdYF ?_
          refine condF ?_
          refine condF ?_
          have hz := someE hF
          subst hz
          refine Exists.intro [] (Exists.intro [] (Exists.intro [] (Exists.intro [] (Exists.intro [(0, some 0)] (And.intro rfl (And.intro rfl (And.intro (And.intro rfl trivial) (And.intro rfl trivial))))))))
      · refine gdNF ?_
        refine gdNF ?_
        refine gdNF ?_
        refine gdNF ?_
        refine condT ?_
        have hz := someE hF
        subst hz
        refine Exists.intro [] (Exists.intro [] (Exists.intro [] (Exists.intro [] (Exists.intro [(0, some 0)] (And.intro rfl (And.intro rfl (And.intro (And.intro rfl trivial) (And.intro rfl trivial))))))))
    · refine And.intro ?_ trivial
      refine condI hF (fun hF => ?_) (fun hF => ?_)
      · refine Or.inl ?_
        have hz := someE hF
        subst hz
        refine Exists.intro [] (Exists.intro [] (Exists.intro [] (Exists.intro [] (Exists.intro [] (And.intro rfl (And.intro rfl (And.intro trivial trivial)))))))
      · refine Or.inl ?_
        refine condN hF (fun hF => ?_) (fun hF => ?_)
        · refine gdYF ?_
          refine gdYF ?_
          refine gdYF ?_
          refine condI hF (fun hF => ?_) (fun hF => ?_)
          · refine gdYT ?_
            refine gdYT ?_
            refine gdYF ?_
            refine condT ?_
            refine condF ?_
            refine condI hF (fun hF => ?_) (fun hF => ?_)
            · refine Or.inl ?_
              have hz := someE hF
              subst hz
              refine Exists.intro [] (Exists.intro [] (Exists.intro [] (Exists.intro [] (Exists.intro [] (And.intro rfl (And.intro rfl (And.intro trivial trivial)))))))
            · have hz := someE hF
              subst hz
              refine Exists.intro [] (Exists.intro [] (Exists.intro [] (Exists.intro [] (Exists.intro [(0, some 0)] (And.intro rfl (And.intro (And.intro rfl trivial) (And.intro rfl trivial)))))))
          · refine gdNT ?_
            refine gdNT ?_
            refine gdYF ?_
            refine condF ?_
            refine condF ?_
            refine condF ?_
            have hz := someE hF
            subst hz
            refine Exists.intro [] (Exists.intro [] (Exists.intro [] (Exists.intro [] (Exists.intro [(0, some 0)] (And.intro rfl (And.intro (And.intro rfl trivial) (And.intro rfl trivial)))))))
        · refine gdNF ?_
          refine gdNF ?_
          refine gdNF ?_
          refine gdNF ?_
          refine condT ?_
          refine condT ?_
          refine Or.inl ?_
          have hz := someE hF
          subst hz
          refine Exists.intro [] (Exists.intro [] (Exists.intro [] (Exists.intro [] (Exists.intro [] (And.intro rfl (And.intro rfl (And.intro trivial trivial)))))))
  · rcases z2 with z2a | z2b
    · dsimp only [sumF] at hF
      refine And.intro ?_ trivial
      refine Or.inl ?_
      have hy := someE hF
      subst hy
      refine And.intro rfl (Exists.intro [] (Exists.intro [] (Exists.intro [] (Exists.intro [] (Exists.intro [] (And.intro rfl (And.intro rfl (And.intro trivial trivial))))))))
    · dsimp only [sumF] at hF
      refine And.intro ?_ trivial
      have hy := someE hF
      subst hy
      refine And.intro rfl (Exists.intro [] (Exists.intro [] (Exists.intro [] (Exists.intro [] (Exists.intro [] (And.intro rfl (And.intro rfl (And.intro trivial trivial))))))))
theorem C53_holds : C53.Holds Try.prog 53 := holds_of_vc tab_ok mixed (fn := Try.f53) (by kernel_rfl) rfl C53 (fun x y hF => C53_vc x y hF)
theorem f53_in : ∃ fn, Try.prog.funcs[53]? = some fn ∧ fn.body.isSome = true ∧ (fn.name == "runtime.NumGoroutine") = false := ⟨Try.f53, by kernel_rfl, by kernel_rfl, by kernel_rfl⟩
end Go.Proofs
namespace Go.Proofs
open Go.AM
-- (*carousel/wide.Acc).Fix
def f37 (s_top : Int) (s_low_Hi : Int) (s_low_Lo : Int) (n : Int) : Option (Int × Int × Int × Int) :=
  bif (s_top == (Int.fdiv s_low_Hi (2 ^ min (Int.toNat (63 : Int)) (IntKind.bits IntKind.i64)))) then
    bindF (f68 (s_low_Hi, s_low_Lo) n) fun q1_11 =>
    bindF (f53 (q1_11.1, q1_11.2)) fun r1 =>
    some (r1, s_top, s_low_Hi, s_low_Lo)
  else
    bif (decide (s_top < (0 : Int))) then
      some ((-9223372036854775808 : Int), s_top, s_low_Hi, s_low_Lo)
    else
      some ((9223372036854775807 : Int), s_top, s_low_Hi, s_low_Lo)
def C37 : Con where
  X := Int × Int × Int × Int
  Y := Int × Int × Int × Int
  e := 1
  args x := [.raw false [(.ptr 0 0)], .dat (.int .i64) x.2.2.2]
  hin x := [(0, .cells [(.d (.int .i64) x.1), (.d (.int .i64) x.2.1), (.d (.int .u64) x.2.2.1)])]
  F x := f37 x.1 x.2.1 x.2.2.1 x.2.2.2
  ret y := [.dat (.int .i64) y.1]
  hout y := [(0, .cells [(.d (.int .i64) y.2.1), (.d (.int .i64) y.2.2.1), (.d (.int .u64) y.2.2.2)])]
  nout := 1
theorem C37_vc (s_top : Int) (s_low_Hi : Int) (s_low_Lo : Int) (n : Int) (y : Int × Int × Int × Int) (hF : f37 s_top s_low_Hi s_low_Lo n = some y) : vc Try.prog tab Try.f37.ntmps 1 (match Try.f37.body with | some c => c | none => .skip) (retK tab C37 Try.f37.results.toList y) (C37.shIn (s_top, s_low_Hi, s_low_Lo, n)).st := by
  unfold f37 at hF
  refine Or.inl ?_
  refine Or.inl ?_
  refine Or.inl ?_
  refine Exists.intro (.take 0 (.take 1 (.take 2 (.take 3 (.take 4 (.take 5 (.take 6 (.take 7 (.take 8 (.take 9 (.take 10 (.take 11 .done)))))))))))) (Exists.intro [] (Exists.intro [] (And.intro rfl ?_)))
  refine And.intro (by decide) ?_
  refine condI hF (fun hF => ?_) (fun hF => ?_)
  · refine Or.inl ?_
    obtain ⟨q1_11, hq1_11, hF⟩ := bindE hF
    refine Or.inl (And.intro f68_in (callV0 (callI C68 ((s_low_Hi, s_low_Lo), n) q1_11 [] false C68_holds hq1_11 rfl rfl ?_)))
    refine (And.intro rfl (And.intro rfl (And.intro rfl (And.intro (fun h => nomatch h) (And.intro rfl (And.intro rfl (And.intro trivial (And.intro trivial ?_))))))))
    obtain ⟨r1, hr1, hF⟩ := bindE hF
    refine Or.inl (And.intro f53_in (callV0 (callI C53 (q1_11.1, q1_11.2) r1 [] false C53_holds hr1 rfl rfl ?_)))
    refine (And.intro rfl (And.intro rfl (And.intro (fun h => nomatch h) (And.intro rfl (And.intro rfl (And.intro trivial (And.intro trivial ?_)))))))
    have hy := someE hF
    subst hy
    refine And.intro rfl (Exists.intro [] (Exists.intro [] (Exists.intro [] (Exists.intro [] (Exists.intro [(0, some 0)] (And.intro rfl (And.intro rfl (And.intro trivial (And.intro rfl trivial)))))))))
  · refine Or.inl ?_
    refine condI hF (fun hF => ?_) (fun hF => ?_)
    · refine Or.inl ?_
      have hy := someE hF
      subst hy
      refine And.intro rfl (Exists.intro [] (Exists.intro [] (Exists.intro [] (Exists.intro [] (Exists.intro [(0, some 0)] (And.intro rfl (And.intro rfl (And.intro trivial (And.intro rfl trivial)))))))))
    · refine Or.inl ?_
      have hy := someE hF
      subst hy
      refine And.intro rfl (Exists.intro [] (Exists.intro [] (Exists.intro [] (Exists.intro [] (Exists.intro [(0, some 0)] (And.intro rfl (And.intro rfl (And.intro trivial (And.intro rfl trivial)))))))))
theorem C37_holds : C37.Holds Try.prog 37 := holds_of_vc tab_ok mixed (fn := Try.f37) (by kernel_rfl) rfl C37 (fun x y hF => C37_vc x.1 x.2.1 x.2.2.1 x.2.2.2 y hF)
theorem f37_in : ∃ fn, Try.prog.funcs[37]? = some fn ∧ fn.body.isSome = true ∧ (fn.name == "runtime.NumGoroutine") = false := ⟨Try.f37, by kernel_rfl, by kernel_rfl, by kernel_rfl⟩
end Go.Proofs
namespace Go.Proofs
open Go.AM
-- carousel/matm.Dot
def f14_l1 (a : List Int) (b : List Int) (go : (Int × Int × Int × Int) → Option (Int × Int × Int)) (v12 : Int) (c0_0 : Int) (c0_1 : Int) (c0_2 : Int) : Option (Int × Int × Int) :=
  bif (decide (v12 < (if (List.length b : Int) < (List.length a : Int) then (List.length b : Int) else (List.length a : Int)))) then
    guardF (0 ≤ v12 ∧ v12 < (List.length a : Int)) <|
    guardF (0 ≤ v12 ∧ v12 < (List.length b : Int)) <|
    bindF (f36 c0_0 c0_1 c0_2 (rd (0 : Int) a v12) (rd (0 : Int) b v12)) fun q5_8 =>
    go ((IntKind.i64.wrap (v12 + (1 : Int))), q5_8.1, q5_8.2.1, q5_8.2.2)
  else
    some (c0_0, c0_1, c0_2)
def f14 (a : List Int) (b : List Int) : Option Int :=
  bindF (loopF (fun go x => f14_l1 a b go x.1 x.2.1 x.2.2.1 x.2.2.2) fuelN ((0 : Int), (0 : Int), (0 : Int), (0 : Int))) fun z1 =>
  bindF (f37 z1.1 z1.2.1 z1.2.2 (32 : Int)) fun r2 =>
  some r2.1
def C14 : Con where
  X := (List Int) × (List Int)
  Y := Int
  e := 0
  args x := [.dat (.sl (.int .i64)) x.1, .dat (.sl (.int .i64)) x.2]
  hin x := []
  F x := f14 x.1 x.2
  ret y := [.dat (.int .i64) y]
  hout y := []
  nout := 0
theorem C14_vc (a : List Int) (b : List Int) (y : Int) (hF : f14 a b = some y) : vc Try.prog tab Try.f14.ntmps 0 (match Try.f14.body with | some c => c | none => .skip) (retK tab C14 Try.f14.results.toList y) (C14.shIn (a, b)).st := by
  unfold f14 at hF
  refine Or.inl ?_
  refine Or.inl ?_
  refine Or.inl ?_
  refine Or.inl ?_
  obtain ⟨z1, hz1, hF⟩ := bindE hF
  refine loopI (Int × Int × Int × Int) (Int × Int × Int) (fun x => ⟨[(0, .dat (.sl (.int .i64)) a), (1, .dat (.sl (.int .i64)) b), (5, .raw false [(.ptr 0 0)]), (11, .dat (.int .i64) (if (List.length b : Int) < (List.length a : Int) then (List.length b : Int) else (List.length a : Int))), (12, .dat (.int .i64) x.1)], [(0, .cells [(.d (.int .i64) x.2.1), (.d (.int .i64) x.2.2.1), (.d (.int .u64) x.2.2.2)])], 1⟩) (fun z => [(2, ⟨[(5, .raw false [(.ptr 0 0)])], [(0, .cells [(.d (.int .i64) z.1), (.d (.int .i64) z.2.1), (.d (.int .u64) z.2.2)])], 1⟩)]) (loopF (fun go x => f14_l1 a b go x.1 x.2.1 x.2.2.1 x.2.2.2)) fuelN ((0 : Int), (0 : Int), (0 : Int), (0 : Int)) z1 (And.intro hz1 (And.intro (Exists.intro [] (Exists.intro [] (Exists.intro [] (Exists.intro [] (Exists.intro [(0, some 0)] (And.intro rfl (And.intro rfl (And.intro rfl (And.intro rfl (And.intro rfl (And.intro (And.intro rfl trivial) (And.intro rfl trivial)))))))))))) (And.intro (fun _ _ h => loopZ h) (And.intro (fun m => curI (fun v12 => curI (fun c0_0 => curI (fun c0_1 => fun c0_2 z hF => ?_)))) ?_))))
  · have hF : f14_l1 a b (loopF (fun go x => f14_l1 a b go x.1 x.2.1 x.2.2.1 x.2.2.2) m) v12 c0_0 c0_1 c0_2 = some z := hF
    unfold f14_l1 at hF
    refine Or.inl ?_
    refine Or.inl ?_
    refine condI hF (fun hF => ?_) (fun hF => ?_)
    · refine Or.inl ?_
      refine Or.inl ?_
      refine Exists.intro (.take 0 (.take 1 (.take 2 (.take 3 (.take 4 (.take 5 (.take 6 (.take 7 (.alt 8 .done .done))))))))) (Exists.intro [] (Exists.intro [] (And.intro rfl ?_)))
      refine guardI hF (fun hF => ?_)
      refine guardI hF (fun hF => ?_)
      refine And.intro trivial ?_
      obtain ⟨q5_8, hq5_8, hF⟩ := bindE hF
      refine Or.inl (And.intro f36_in (callV0 (callI C36 (c0_0, c0_1, c0_2, (rd (0 : Int) a v12), (rd (0 : Int) b v12)) q5_8 [(0, some 0)] false C36_holds hq5_8 rfl rfl ?_)))
      refine (And.intro rfl (And.intro rfl (And.intro (fun h => nomatch h) (And.intro rfl (And.intro rfl (And.intro (And.intro rfl trivial) (And.intro (And.intro rfl trivial) ?_)))))))
      refine Exists.intro ((IntKind.i64.wrap (v12 + (1 : Int))), q5_8.1, q5_8.2.1, q5_8.2.2) (And.intro hF (Exists.intro [] (Exists.intro [] (Exists.intro [] (Exists.intro [] (Exists.intro [(0, some 0)] (And.intro rfl (And.intro rfl (And.intro rfl (And.intro rfl (And.intro rfl (And.intro (And.intro rfl trivial) (And.intro rfl trivial)))))))))))))
    · have hz := someE hF
      subst hz
      refine Exists.intro [] (Exists.intro [] (Exists.intro [] (Exists.intro [] (Exists.intro [(0, some 0)] (And.intro rfl (And.intro (And.intro rfl trivial) (And.intro rfl trivial)))))))
  · refine And.intro ?_ trivial
    refine Or.inl ?_
    obtain ⟨r2, hr2, hF⟩ := bindE hF
    refine Or.inl (And.intro f37_in (callV0 (callI C37 (z1.1, z1.2.1, z1.2.2, (32 : Int)) r2 [(0, some 0)] false C37_holds hr2 rfl rfl ?_)))
    refine (And.intro rfl (And.intro (fun h => nomatch h) (And.intro rfl (And.intro rfl (And.intro (And.intro rfl trivial) (And.intro (And.intro rfl trivial) ?_))))))
    have hy := someE hF
    subst hy
    refine And.intro rfl (Exists.intro [] (Exists.intro [] (Exists.intro [] (Exists.intro [] (Exists.intro [] (And.intro rfl (And.intro rfl (And.intro trivial trivial))))))))
theorem C14_holds : C14.Holds Try.prog 14 := holds_of_vc tab_ok mixed (fn := Try.f14) (by kernel_rfl) rfl C14 (fun x y hF => C14_vc x.1 x.2 y hF)
theorem f14_in : ∃ fn, Try.prog.funcs[14]? = some fn ∧ fn.body.isSome = true ∧ (fn.name == "runtime.NumGoroutine") = false := ⟨Try.f14, by kernel_rfl, by kernel_rfl, by kernel_rfl⟩
end Go.Proofs
namespace Go.Proofs
open Go.AM
-- carousel/matm.Mul
def f17_j4 (a : (List Int) × (List Int)) (b : (List Int) × (List Int)) : Option Bool :=
  bindF (f42 (a.1, a.2)) fun r9 =>
  bif (!r9) then
    some true
  else
    bindF (f42 (b.1, b.2)) fun r10 =>
    some (!r10)
def f17_j5 (a : (List Int) × (List Int)) (b : (List Int) × (List Int)) : Option Bool :=
  bindF (f43 (a.1, a.2)) fun q3_1 =>
  bif (!q3_1) then
    some true
  else
    bindF (f43 (b.1, b.2)) fun q3_5 =>
    bif (!q3_5) then
      some true
    else
      guardF (0 ≤ (1 : Int) ∧ (1 : Int) < (List.length a.1 : Int)) <|
      guardF (0 ≤ (0 : Int) ∧ (0 : Int) < (List.length b.1 : Int)) <|
      some ((rd (0 : Int) a.1 (1 : Int)) != (rd (0 : Int) b.1 (0 : Int)))
def f17_j3 (a : (List Int) × (List Int)) (b : (List Int) × (List Int)) : Option (Sum Unit Int) :=
  bindF (f17_j4 a b) fun z8 =>
  bif z8 then
    some (Sum.inr (1 : Int))
  else
    bindF (f17_j5 a b) fun z11 =>
    bif z11 then
      some (Sum.inr (4 : Int))
    else
      some (Sum.inl ())
def f17_l9 (a : (List Int) × (List Int)) (b : (List Int) × (List Int)) (r12 : Int × (List Int) × (List Int)) (v74 : Int) (go : (Int × (List Int)) → Option (List Int)) (v78 : Int) (l5_2 : List Int) : Option (List Int) :=
  bif (decide (v78 < (rd (0 : Int) b.1 (1 : Int)))) then
    guardF (0 ≤ (IntKind.i64.wrap (v74 * (rd (0 : Int) a.1 (1 : Int)))) ∧ (IntKind.i64.wrap (v74 * (rd (0 : Int) a.1 (1 : Int)))) ≤ (IntKind.i64.wrap ((IntKind.i64.wrap (v74 + (1 : Int))) * (rd (0 : Int) a.1 (1 : Int)))) ∧ (IntKind.i64.wrap ((IntKind.i64.wrap (v74 + (1 : Int))) * (rd (0 : Int) a.1 (1 : Int)))) ≤ (List.length a.2 : Int)) <|
    guardF (0 ≤ (IntKind.i64.wrap (v78 * (rd (0 : Int) a.1 (1 : Int)))) ∧ (IntKind.i64.wrap (v78 * (rd (0 : Int) a.1 (1 : Int)))) ≤ (IntKind.i64.wrap ((IntKind.i64.wrap (v78 + (1 : Int))) * (rd (0 : Int) a.1 (1 : Int)))) ∧ (IntKind.i64.wrap ((IntKind.i64.wrap (v78 + (1 : Int))) * (rd (0 : Int) a.1 (1 : Int)))) ≤ (List.length r12.2.2 : Int)) <|
    bindF (f14 (List.drop (Int.toNat (IntKind.i64.wrap (v74 * (rd (0 : Int) a.1 (1 : Int))))) (List.take (Int.toNat (IntKind.i64.wrap ((IntKind.i64.wrap (v74 + (1 : Int))) * (rd (0 : Int) a.1 (1 : Int))))) a.2)) (List.drop (Int.toNat (IntKind.i64.wrap (v78 * (rd (0 : Int) a.1 (1 : Int))))) (List.take (Int.toNat (IntKind.i64.wrap ((IntKind.i64.wrap (v78 + (1 : Int))) * (rd (0 : Int) a.1 (1 : Int))))) r12.2.2))) fun q16_27 =>
    guardF (0 ≤ (IntKind.i64.wrap ((IntKind.i64.wrap (v74 * (rd (0 : Int) b.1 (1 : Int)))) + v78)) ∧ (IntKind.i64.wrap ((IntKind.i64.wrap (v74 * (rd (0 : Int) b.1 (1 : Int)))) + v78)) < (List.length l5_2 : Int)) <|
    go ((IntKind.i64.wrap (v78 + (1 : Int))), (List.set l5_2 (Int.toNat (IntKind.i64.wrap ((IntKind.i64.wrap (v74 * (rd (0 : Int) b.1 (1 : Int)))) + v78))) q16_27))
  else
    some l5_2
def f17_l8 (a : (List Int) × (List Int)) (b : (List Int) × (List Int)) (r12 : Int × (List Int) × (List Int)) (go : (Int × (List Int)) → Option (List Int)) (v74 : Int) (l5 : List Int) : Option (List Int) :=
  bif (decide (v74 < (rd (0 : Int) a.1 (0 : Int)))) then
    bindF (loopF (fun go x => f17_l9 a b r12 v74 go x.1 x.2) fuelN ((0 : Int), l5)) fun z16 =>
    go ((IntKind.i64.wrap (v74 + (1 : Int))), z16)
  else
    some l5
def f17 (a : (List Int) × (List Int)) (b : (List Int) × (List Int)) : Option (Int × (List Int) × (List Int)) :=
  bindF (f17_j3 a b) fun z6 =>
  sumF z6 (fun z6a =>
    guardF (0 ≤ (0 : Int) ∧ (0 : Int) < (List.length a.1 : Int)) <|
    guardF (0 ≤ (1 : Int) ∧ (1 : Int) < (List.length a.1 : Int)) <|
    guardF (0 ≤ (1 : Int) ∧ (1 : Int) < (List.length b.1 : Int)) <|
    bindF (f44 ([(rd (0 : Int) a.1 (0 : Int)), (rd (0 : Int) b.1 (1 : Int))]) (0 : Int)) fun q5_14 =>
    bif (q5_14.1 != (0 : Int)) then
      some ((2 : Int), [], [])
    else
      bindF (f18 (b.1, b.2)) fun r12 =>
      bindF (loopF (fun go x => f17_l8 a b r12 go x.1 x.2) fuelN ((0 : Int), q5_14.2.2)) fun z15 =>
      some ((0 : Int), q5_14.2.1, z15)) (fun z6b =>
    some (z6b, [], []))
def C17 : Con where
  X := ((List Int) × (List Int)) × ((List Int) × (List Int))
  Y := Int × (List Int) × (List Int)
  e := 0
  args x := [.dat (.p (.sl (.int .i64)) (.sl (.int .i64))) x.1, .dat (.p (.sl (.int .i64)) (.sl (.int .i64))) x.2]
  hin x := []
  F x := f17 x.1 x.2
  ret y := [.raw true [(.osl 0), (.osl 1)], .dat (.int .i64) y.1]
  hout y := [(0, .arr 3 (.int .i64) y.2.1), (1, .arr 24 (.int .i64) y.2.2)]
  nout := 2
theorem C17_vc (a : (List Int) × (List Int)) (b : (List Int) × (List Int)) (y : Int × (List Int) × (List Int)) (hF : f17 a b = some y) : vc Try.prog tab Try.f17.ntmps 0 (match Try.f17.body with | some c => c | none => .skip) (retK tab C17 Try.f17.results.toList y) (C17.shIn (a, b)).st := by
  unfold f17 at hF
  refine Or.inl ?_
  obtain ⟨z6, hz6, hF⟩ := bindE hF
  refine Or.inr ⟨Sum.elim (fun z6a => [(0, ⟨[(2, .raw false [(.ptr 0 0)]), (3, .raw false [(.ptr 1 0)]), (4, .raw false [(.ptr 2 0)])], [(0, .cells [(.d (.sl (.int .i64)) a.1), (.d (.sl (.int .i64)) a.2)]), (1, .cells [(.d (.sl (.int .i64)) b.1), (.d (.sl (.int .i64)) b.2)]), (2, .cells [(.c (.slice none 0 0)), (.c (.slice none 0 0))])], 3⟩)]) (fun z6b => [(1, ⟨[(4, .raw false [(.ptr 0 0)]), (5, .dat (.int .i64) z6b)], [(0, .cells [(.c (.slice none 0 0)), (.c (.slice none 0 0))])], 1⟩)]) z6, ?_, ?_⟩
  · have hF := hz6
    clear hz6
    unfold f17_j3 at hF
    obtain ⟨z8, hz8, hF⟩ := bindE hF
    refine Or.inr ⟨[(0, ⟨[(2, .raw false [(.ptr 0 0)]), (3, .raw false [(.ptr 1 0)]), (4, .raw false [(.ptr 2 0)]), (15, .dat .bool z8)], [(0, .cells [(.d (.sl (.int .i64)) a.1), (.d (.sl (.int .i64)) a.2)]), (1, .cells [(.d (.sl (.int .i64)) b.1), (.d (.sl (.int .i64)) b.2)]), (2, .cells [(.c (.slice none 0 0)), (.c (.slice none 0 0))])], 3⟩)], ?_, ?_⟩
    · have hF := hz8
      clear hz8
      unfold f17_j4 at hF
      obtain ⟨r9, hr9, hF⟩ := bindE hF
      refine Or.inl (And.intro f42_in (callV0 (callI C42 (a.1, a.2) r9 [] false C42_holds hr9 rfl rfl ?_)))
      refine (And.intro rfl (And.intro rfl (And.intro (fun h => nomatch h) (And.intro rfl (And.intro rfl (And.intro trivial (And.intro trivial ?_)))))))
      refine condN hF (fun hF => ?_) (fun hF => ?_)
      · refine gdYF ?_
        obtain ⟨r10, hr10, hF⟩ := bindE hF
        refine Or.inl (And.intro f42_in (callV0 (callI C42 (b.1, b.2) r10 [] false C42_holds hr10 rfl rfl ?_)))
        refine (And.intro rfl (And.intro rfl (And.intro (fun h => nomatch h) (And.intro rfl (And.intro rfl (And.intro trivial (And.intro trivial ?_)))))))
        refine gdYF ?_
        refine condF ?_
        have hz := someE hF
        subst hz
        refine Exists.intro [] (Exists.intro [] (Exists.intro [] (Exists.intro [] (Exists.intro [(0, some 0), (1, some 1), (2, some 2)] (And.intro rfl (And.intro rfl (And.intro (And.intro rfl (And.intro rfl (And.intro rfl trivial))) (And.intro rfl (And.intro rfl (And.intro rfl trivial))))))))))
      · refine gdNF ?_
        refine gdNF ?_
        refine condT ?_
        have hz := someE hF
        subst hz
        refine Exists.intro [] (Exists.intro [] (Exists.intro [] (Exists.intro [] (Exists.intro [(0, some 0), (1, some 1), (2, some 2)] (And.intro rfl (And.intro rfl (And.intro (And.intro rfl (And.intro rfl (And.intro rfl trivial))) (And.intro rfl (And.intro rfl (And.intro rfl trivial))))))))))
    · refine And.intro ?_ trivial
      refine condI hF (fun hF => ?_) (fun hF => ?_)
      · refine Or.inl ?_
        refine Or.inl ?_
        have hz := someE hF
        subst hz
        refine Exists.intro [] (Exists.intro [] (Exists.intro [] (Exists.intro [] (Exists.intro [(0, some 2)] (And.intro rfl (And.intro rfl (And.intro (And.intro rfl trivial) (And.intro rfl trivial))))))))
      · obtain ⟨z11, hz11, hF⟩ := bindE hF
        refine Or.inr ⟨[(0, ⟨[(2, .raw false [(.ptr 0 0)]), (3, .raw false [(.ptr 1 0)]), (4, .raw false [(.ptr 2 0)]), (25, .dat .bool z11)], [(0, .cells [(.d (.sl (.int .i64)) a.1), (.d (.sl (.int .i64)) a.2)]), (1, .cells [(.d (.sl (.int .i64)) b.1), (.d (.sl (.int .i64)) b.2)]), (2, .cells [(.c (.slice none 0 0)), (.c (.slice none 0 0))])], 3⟩)], ?_, ?_⟩
        · have hF := hz11
          clear hz11
          unfold f17_j5 at hF
          refine Exists.intro (.take 0 (.alt 1 (.take 2 (.take 3 (.take 4 (.alt 5 (.take 6 (.take 7 (.take 8 (.take 9 (.take 10 (.take 11 (.take 12 (.take 13 (.take 14 (.take 15 (.take 16 (.take 17 (.take 18 (.take 19 .done)))))))))))))) .done)))) .done)) (Exists.intro [] (Exists.intro [] (And.intro rfl ?_)))
          refine And.intro trivial ?_
          obtain ⟨q3_1, hq3_1, hF⟩ := bindE hF
          refine Or.inl (And.intro f43_in (callV0 (callI C43 (a.1, a.2) q3_1 [] false C43_holds hq3_1 rfl rfl ?_)))
          refine (And.intro rfl (And.intro rfl (And.intro (fun h => nomatch h) (And.intro rfl (And.intro rfl (And.intro trivial (And.intro trivial ?_)))))))
          refine condN hF (fun hF => ?_) (fun hF => ?_)
          · refine And.intro trivial ?_
            refine gdYF ?_
            obtain ⟨q3_5, hq3_5, hF⟩ := bindE hF
            refine Or.inl (And.intro f43_in (callV0 (callI C43 (b.1, b.2) q3_5 [] false C43_holds hq3_5 rfl rfl ?_)))
            refine (And.intro rfl (And.intro rfl (And.intro (fun h => nomatch h) (And.intro rfl (And.intro rfl (And.intro trivial (And.intro trivial ?_)))))))
            refine gdYF ?_
            refine condF ?_
            refine condN hF (fun hF => ?_) (fun hF => ?_)
            · refine gdYF ?_
              refine gdYF ?_
              refine guardI hF (fun hF => ?_)
              refine gdYF ?_
              refine gdYF ?_
              refine gdYF ?_
              refine gdYF ?_
              refine guardI hF (fun hF => ?_)
              refine gdYF ?_
              refine gdYF ?_
              refine condF ?_
              have hz := someE hF
              subst hz
              refine Exists.intro [] (Exists.intro [] (Exists.intro [] (Exists.intro [] (Exists.intro [(0, some 0), (1, some 1), (2, some 2)] (And.intro rfl (And.intro rfl (And.intro (And.intro rfl (And.intro rfl (And.intro rfl trivial))) (And.intro rfl (And.intro rfl (And.intro rfl trivial))))))))))
            · refine gdNF ?_
              refine gdNF ?_
              refine gdNF ?_
              refine gdNF ?_
              refine gdNF ?_
              refine gdNF ?_
              refine gdNF ?_
              refine gdNF ?_
              refine condT ?_
              have hz := someE hF
              subst hz
              refine Exists.intro [] (Exists.intro [] (Exists.intro [] (Exists.intro [] (Exists.intro [(0, some 0), (1, some 1), (2, some 2)] (And.intro rfl (And.intro rfl (And.intro (And.intro rfl (And.intro rfl (And.intro rfl trivial))) (And.intro rfl (And.intro rfl (And.intro rfl trivial))))))))))
          · refine And.intro trivial ?_
            refine gdNF ?_
            refine gdNF ?_
            refine condT ?_
            refine gdNF ?_
            refine gdNF ?_
            refine gdNF ?_
            refine gdNF ?_
            refine gdNF ?_
            refine gdNF ?_
            refine gdNF ?_
            refine gdNF ?_
            refine gdNF ?_
            refine condT ?_
            have hz := someE hF
            subst hz
            refine Exists.intro [] (Exists.intro [] (Exists.intro [] (Exists.intro [] (Exists.intro [(0, some 0), (1, some 1), (2, some 2)] (And.intro rfl (And.intro rfl (And.intro (And.intro rfl (And.intro rfl (And.intro rfl trivial))) (And.intro rfl (And.intro rfl (And.intro rfl trivial))))))))))
        · refine And.intro ?_ trivial
          refine condI hF (fun hF => ?_) (fun hF => ?_)
          · refine Or.inl ?_
            refine Or.inl ?_
            have hz := someE hF
            subst hz
            refine Exists.intro [] (Exists.intro [] (Exists.intro [] (Exists.intro [] (Exists.intro [(0, some 2)] (And.intro rfl (And.intro rfl (And.intro (And.intro rfl trivial) (And.intro rfl trivial))))))))
          · have hz := someE hF
            subst hz
            refine Exists.intro [] (Exists.intro [] (Exists.intro [] (Exists.intro [] (Exists.intro [(0, some 0), (1, some 1), (2, some 2)] (And.intro rfl (And.intro (And.intro rfl (And.intro rfl (And.intro rfl trivial))) (And.intro rfl (And.intro rfl (And.intro rfl trivial)))))))))
  · rcases z6 with z6a | z6b
    · dsimp only [sumF] at hF
      refine And.intro ?_ trivial
      refine Or.inl ?_
      refine Exists.intro (.take 0 (.take 1 (.take 2 (.take 3 (.take 4 (.take 5 (.take 6 (.take 7 (.take 8 (.take 9 (.take 10 (.take 11 (.take 12 (.take 13 (.take 14 .done))))))))))))))) (Exists.intro [] (Exists.intro [] (And.intro rfl ?_)))
      refine guardI hF (fun hF => ?_)
      refine guardI hF (fun hF => ?_)
      refine guardI hF (fun hF => ?_)
      refine Or.inl ?_
      refine Or.inl ?_
      obtain ⟨q5_14, hq5_14, hF⟩ := bindE hF
      refine Or.inl (And.intro f44_in (callV0 (callI C44 ([(rd (0 : Int) a.1 (0 : Int)), (rd (0 : Int) b.1 (1 : Int))], (0 : Int)) q5_14 [] true C44_holds hq5_14 rfl rfl ?_)))
      refine (And.intro rfl (And.intro rfl (And.intro (fun _ => rfl) (And.intro rfl (And.intro rfl (And.intro trivial (And.intro trivial ?_)))))))
      refine Or.inl ?_
      refine Or.inl ?_
      refine Or.inl ?_
      refine condI hF (fun hF => ?_) (fun hF => ?_)
      · refine Or.inl ?_
        refine Or.inl ?_
        have hy := someE hF
        subst hy
        refine And.intro rfl (Exists.intro [] (Exists.intro [] (Exists.intro [] (Exists.intro [] (Exists.intro [(0, none), (1, none)] (And.intro rfl (And.intro rfl (And.intro (And.intro rfl trivial) (And.intro rfl (And.intro rfl trivial))))))))))
      · refine Or.inl ?_
        obtain ⟨r12, hr12, hF⟩ := bindE hF
        refine Or.inl (And.intro f18_in (callV0 (callI C18 (b.1, b.2) r12 [] false C18_holds hr12 rfl rfl ?_)))
        refine (And.intro rfl (And.intro rfl (And.intro (fun h => nomatch h) (And.intro rfl (And.intro rfl (And.intro trivial (And.intro trivial ?_)))))))
        refine Or.inl ?_
        refine Or.inl ?_
        refine Or.inl ?_
        obtain ⟨z15, hz15, hF⟩ := bindE hF
        refine loopI (Int × (List Int)) (List Int) (fun x => ⟨[(2, .raw false [(.ptr 0 0)]), (4, .raw false [(.ptr 1 0)]), (7, .dat (.int .i64) (rd (0 : Int) a.1 (1 : Int))), (8, .dat (.int .i64) (rd (0 : Int) b.1 (1 : Int))), (9, .raw false [(.ptr 2 0)]), (11, .raw false [(.ptr 3 0)]), (73, .dat (.int .i64) (rd (0 : Int) a.1 (0 : Int))), (74, .dat (.int .i64) x.1)], [(0, .cells [(.d (.sl (.int .i64)) a.1), (.d (.sl (.int .i64)) a.2)]), (1, .cells [(.c (.slice none 0 0)), (.c (.slice none 0 0))]), (2, .cells [(.osl 4), (.osl 5)]), (3, .cells [(.osl 6), (.d (.sl (.int .i64)) r12.2.2)]), (4, .arr 3 (.int .i64) q5_14.2.1), (5, .arr 24 (.int .i64) x.2), (6, .arr 3 (.int .i64) r12.2.1)], 7⟩) (fun z => [(3, ⟨[(4, .raw false [(.ptr 0 0)]), (9, .raw false [(.ptr 1 0)])], [(0, .cells [(.c (.slice none 0 0)), (.c (.slice none 0 0))]), (1, .cells [(.osl 2), (.osl 3)]), (2, .arr 3 (.int .i64) q5_14.2.1), (3, .arr 24 (.int .i64) z)], 4⟩)]) (loopF (fun go x => f17_l8 a b r12 go x.1 x.2)) fuelN ((0 : Int), q5_14.2.2) z15 (And.intro hz15 (And.intro (Exists.intro [] (Exists.intro [] (Exists.intro [] (Exists.intro [8] (Exists.intro [(0, some 0), (1, some 2), (2, some 6), (3, some 9), (4, some 4), (5, some 5), (6, some 7)] (And.intro rfl (And.intro rfl (And.intro rfl (And.intro rfl (And.intro rfl (And.intro (And.intro rfl (And.intro rfl (And.intro rfl (And.intro rfl trivial)))) (And.intro rfl (And.intro rfl (And.intro rfl (And.intro rfl (And.intro rfl (And.intro rfl (And.intro rfl trivial)))))))))))))))))) (And.intro (fun _ _ h => loopZ h) (And.intro (fun m => curI (fun v74 => fun l5 z hF => ?_)) ?_))))
        · have hF : f17_l8 a b r12 (loopF (fun go x => f17_l8 a b r12 go x.1 x.2) m) v74 l5 = some z := hF
          unfold f17_l8 at hF
          refine Or.inl ?_
          refine Or.inl ?_
          refine condI hF (fun hF => ?_) (fun hF => ?_)
          · refine Or.inl ?_
            refine Or.inl ?_
            refine Or.inl ?_
            obtain ⟨z16, hz16, hF⟩ := bindE hF
            refine loopI (Int × (List Int)) (List Int) (fun x => ⟨[(2, .raw false [(.ptr 0 0)]), (4, .raw false [(.ptr 1 0)]), (7, .dat (.int .i64) (rd (0 : Int) a.1 (1 : Int))), (8, .dat (.int .i64) (rd (0 : Int) b.1 (1 : Int))), (9, .raw false [(.ptr 2 0)]), (11, .raw false [(.ptr 3 0)]), (13, .dat (.int .i64) v74), (73, .dat (.int .i64) (rd (0 : Int) a.1 (0 : Int))), (74, .dat (.int .i64) v74), (77, .dat (.int .i64) (rd (0 : Int) b.1 (1 : Int))), (78, .dat (.int .i64) x.1)], [(0, .cells [(.d (.sl (.int .i64)) a.1), (.d (.sl (.int .i64)) a.2)]), (1, .cells [(.c (.slice none 0 0)), (.c (.slice none 0 0))]), (2, .cells [(.osl 4), (.osl 5)]), (3, .cells [(.osl 6), (.d (.sl (.int .i64)) r12.2.2)]), (4, .arr 3 (.int .i64) q5_14.2.1), (5, .arr 24 (.int .i64) x.2), (6, .arr 3 (.int .i64) r12.2.1)], 7⟩) (fun z => [(5, ⟨[(2, .raw false [(.ptr 0 0)]), (4, .raw false [(.ptr 1 0)]), (7, .dat (.int .i64) (rd (0 : Int) a.1 (1 : Int))), (8, .dat (.int .i64) (rd (0 : Int) b.1 (1 : Int))), (9, .raw false [(.ptr 2 0)]), (11, .raw false [(.ptr 3 0)]), (73, .dat (.int .i64) (rd (0 : Int) a.1 (0 : Int))), (74, .dat (.int .i64) v74)], [(0, .cells [(.d (.sl (.int .i64)) a.1), (.d (.sl (.int .i64)) a.2)]), (1, .cells [(.c (.slice none 0 0)), (.c (.slice none 0 0))]), (2, .cells [(.osl 4), (.osl 5)]), (3, .cells [(.osl 6), (.d (.sl (.int .i64)) r12.2.2)]), (4, .arr 3 (.int .i64) q5_14.2.1), (5, .arr 24 (.int .i64) z), (6, .arr 3 (.int .i64) r12.2.1)], 7⟩)]) (loopF (fun go x => f17_l9 a b r12 v74 go x.1 x.2)) fuelN ((0 : Int), l5) z16 (And.intro hz16 (And.intro (Exists.intro [] (Exists.intro [] (Exists.intro [] (Exists.intro [] (Exists.intro [(0, some 0), (1, some 1), (2, some 2), (3, some 3), (4, some 4), (5, some 5), (6, some 6)] (And.intro rfl (And.intro rfl (And.intro rfl (And.intro rfl (And.intro rfl (And.intro rfl (And.intro rfl (And.intro rfl (And.intro (And.intro rfl (And.intro rfl (And.intro rfl (And.intro rfl trivial)))) (And.intro rfl (And.intro rfl (And.intro rfl (And.intro rfl (And.intro rfl (And.intro rfl (And.intro rfl trivial))))))))))))))))))))) (And.intro (fun _ _ h => loopZ h) (And.intro (fun m => curI (fun v78 => fun l5_2 z hF => ?_)) ?_))))
            · have hF : f17_l9 a b r12 v74 (loopF (fun go x => f17_l9 a b r12 v74 go x.1 x.2) m) v78 l5_2 = some z := hF
              unfold f17_l9 at hF
              refine Or.inl ?_
              refine Or.inl ?_
              refine condI hF (fun hF => ?_) (fun hF => ?_)
              · refine Or.inl ?_
                refine Or.inl ?_
                refine Exists.intro (.take 0 (.take 1 (.take 2 (.take 3 (.take 4 (.take 5 (.take 6 (.take 7 (.take 8 (.take 9 (.take 10 (.take 11 (.take 12 (.take 13 (.take 14 (.take 15 (.take 16 (.take 17 (.take 18 (.take 19 (.take 20 (.take 21 (.take 22 (.take 23 (.take 24 (.take 25 (.alt 26 (.alt 27 (.take 28 (.alt 29 .done .done)) .done) .done))))))))))))))))))))))))))) (Exists.intro [] (Exists.intro [] (And.intro rfl ?_)))
                refine guardI hF (fun hF => ?_)
                refine And.intro trivial ?_
                refine guardI hF (fun hF => ?_)
                refine And.intro trivial ?_
                obtain ⟨q16_27, hq16_27, hF⟩ := bindE hF
                refine Or.inl (And.intro f14_in (callV0 (callI C14 ((List.drop (Int.toNat (IntKind.i64.wrap (v74 * (rd (0 : Int) a.1 (1 : Int))))) (List.take (Int.toNat (IntKind.i64.wrap ((IntKind.i64.wrap (v74 + (1 : Int))) * (rd (0 : Int) a.1 (1 : Int))))) a.2)), (List.drop (Int.toNat (IntKind.i64.wrap (v78 * (rd (0 : Int) a.1 (1 : Int))))) (List.take (Int.toNat (IntKind.i64.wrap ((IntKind.i64.wrap (v78 + (1 : Int))) * (rd (0 : Int) a.1 (1 : Int))))) r12.2.2))) q16_27 [] false C14_holds hq16_27 rfl rfl ?_)))
                refine (And.intro rfl (And.intro rfl (And.intro (fun h => nomatch h) (And.intro rfl (And.intro rfl (And.intro trivial (And.intro trivial ?_)))))))
                refine guardI hF (fun hF => ?_)
                refine And.intro trivial ?_
                refine Or.inl ?_
                refine Exists.intro ((IntKind.i64.wrap (v78 + (1 : Int))), (List.set l5_2 (Int.toNat (IntKind.i64.wrap ((IntKind.i64.wrap (v74 * (rd (0 : Int) b.1 (1 : Int)))) + v78))) q16_27)) (And.intro hF (Exists.intro [] (Exists.intro [] (Exists.intro [] (Exists.intro [] (Exists.intro [(0, some 0), (1, some 1), (2, some 2), (3, some 3), (4, some 4), (5, some 5), (6, some 6)] (And.intro rfl (And.intro rfl (And.intro rfl (And.intro rfl (And.intro rfl (And.intro rfl (And.intro rfl (And.intro rfl (And.intro (And.intro rfl (And.intro rfl (And.intro rfl (And.intro rfl trivial)))) (And.intro rfl (And.intro rfl (And.intro rfl (And.intro rfl (And.intro rfl (And.intro rfl (And.intro rfl trivial))))))))))))))))))))))
              · have hz := someE hF
                subst hz
                refine Exists.intro [] (Exists.intro [] (Exists.intro [] (Exists.intro [] (Exists.intro [(0, some 0), (1, some 1), (2, some 2), (3, some 3), (4, some 4), (5, some 5), (6, some 6)] (And.intro rfl (And.intro rfl (And.intro rfl (And.intro rfl (And.intro rfl (And.intro (And.intro rfl (And.intro rfl (And.intro rfl (And.intro rfl trivial)))) (And.intro rfl (And.intro rfl (And.intro rfl (And.intro rfl (And.intro rfl (And.intro rfl (And.intro rfl trivial)))))))))))))))))
            · refine And.intro ?_ trivial
              refine Exists.intro ((IntKind.i64.wrap (v74 + (1 : Int))), z16) (And.intro hF (Exists.intro [] (Exists.intro [] (Exists.intro [] (Exists.intro [] (Exists.intro [(0, some 0), (1, some 1), (2, some 2), (3, some 3), (4, some 4), (5, some 5), (6, some 6)] (And.intro rfl (And.intro rfl (And.intro rfl (And.intro rfl (And.intro rfl (And.intro (And.intro rfl (And.intro rfl (And.intro rfl (And.intro rfl trivial)))) (And.intro rfl (And.intro rfl (And.intro rfl (And.intro rfl (And.intro rfl (And.intro rfl (And.intro rfl trivial)))))))))))))))))))
          · have hz := someE hF
            subst hz
            refine Exists.intro [] (Exists.intro [] (Exists.intro [] (Exists.intro [] (Exists.intro [(0, some 1), (1, some 2), (2, some 4), (3, some 5)] (And.intro rfl (And.intro (And.intro rfl (And.intro rfl trivial)) (And.intro rfl (And.intro rfl (And.intro rfl (And.intro rfl trivial))))))))))
        · refine And.intro ?_ trivial
          refine Or.inl ?_
          refine Or.inl ?_
          have hy := someE hF
          subst hy
          refine And.intro rfl (Exists.intro [] (Exists.intro [] (Exists.intro [] (Exists.intro [] (Exists.intro [(0, some 2), (1, some 3)] (And.intro rfl (And.intro rfl (And.intro (And.intro rfl trivial) (And.intro rfl (And.intro rfl trivial))))))))))
    · dsimp only [sumF] at hF
      refine And.intro ?_ trivial
      have hy := someE hF
      subst hy
      refine And.intro rfl (Exists.intro [] (Exists.intro [] (Exists.intro [] (Exists.intro [] (Exists.intro [(0, none), (1, none)] (And.intro rfl (And.intro rfl (And.intro (And.intro rfl trivial) (And.intro rfl (And.intro rfl trivial))))))))))
theorem C17_holds : C17.Holds Try.prog 17 := holds_of_vc tab_ok mixed (fn := Try.f17) (by kernel_rfl) rfl C17 (fun x y hF => C17_vc x.1 x.2 y hF)
theorem f17_in : ∃ fn, Try.prog.funcs[17]? = some fn ∧ fn.body.isSome = true ∧ (fn.name == "runtime.NumGoroutine") = false := ⟨Try.f17, by kernel_rfl, by kernel_rfl, by kernel_rfl⟩
end Go.Proofs
namespace Go.Proofs
open Go.AM
-- carousel/carouselref5.Same
def f46_l1 (a : List Int) (b : List Int) (go : Int → Option (Sum Unit Unit)) (i : Int) : Option (Sum Unit Unit) :=
  bif (decide (i < (List.length a : Int))) then
    guardF (0 ≤ i ∧ i < (List.length a : Int)) <|
    guardF (0 ≤ i ∧ i < (List.length b : Int)) <|
    bif ((rd (0 : Int) a i) != (rd (0 : Int) b i)) then
      some (Sum.inl ())
    else
      go (IntKind.i64.wrap (i + (1 : Int)))
  else
    some (Sum.inr ())
def f46 (a : List Int) (b : List Int) : Option Bool :=
  bif ((List.length a : Int) != (List.length b : Int)) then
    some false
  else
    bindF (loopF (fun go x => f46_l1 a b go x) fuelN (0 : Int)) fun z1 =>
    sumF z1 (fun z1a =>
      some false) (fun z1b =>
      some true)
def C46 : Con where
  X := (List Int) × (List Int)
  Y := Bool
  e := 0
  args x := [.dat (.sl (.int .i64)) x.1, .dat (.sl (.int .i64)) x.2]
  hin x := []
  F x := f46 x.1 x.2
  ret y := [.dat .bool y]
  hout y := []
  nout := 0
theorem C46_vc (a : List Int) (b : List Int) (y : Bool) (hF : f46 a b = some y) : vc Try.prog tab Try.f46.ntmps 0 (match Try.f46.body with | some c => c | none => .skip) (retK tab C46 Try.f46.results.toList y) (C46.shIn (a, b)).st := by
  unfold f46 at hF
  refine Or.inl ?_
  refine Or.inl ?_
  refine Or.inl ?_
  refine condI hF (fun hF => ?_) (fun hF => ?_)
  · refine Or.inl ?_
    have hy := someE hF
    subst hy
    refine And.intro rfl (Exists.intro [] (Exists.intro [] (Exists.intro [] (Exists.intro [] (Exists.intro [] (And.intro rfl (And.intro rfl (And.intro trivial trivial))))))))
  · refine Or.inl ?_
    refine Or.inl ?_
    obtain ⟨z1, hz1, hF⟩ := bindE hF
    refine loopI Int (Sum Unit Unit) (fun x => ⟨[(0, .dat (.sl (.int .i64)) a), (1, .dat (.sl (.int .i64)) b), (5, .dat (.int .i64) x)], [], 0⟩) (fun z => Sum.elim (fun za => [(1, ⟨[(4, .dat .bool false)], [], 0⟩)]) (fun zb => [(2, ⟨[], [], 0⟩)]) z) (loopF (fun go x => f46_l1 a b go x)) fuelN (0 : Int) z1 (And.intro hz1 (And.intro (Exists.intro [] (Exists.intro [] (Exists.intro [] (Exists.intro [] (Exists.intro [] (And.intro rfl (And.intro rfl (And.intro rfl (And.intro rfl (And.intro trivial trivial)))))))))) (And.intro (fun _ _ h => loopZ h) (And.intro (fun m => fun i z hF => ?_) ?_))))
    · have hF : f46_l1 a b (loopF (fun go x => f46_l1 a b go x) m) i = some z := hF
      unfold f46_l1 at hF
      refine Or.inl ?_
      refine Or.inl ?_
      refine condI hF (fun hF => ?_) (fun hF => ?_)
      · refine Or.inl ?_
        refine Or.inl ?_
        refine Exists.intro (.take 0 (.take 1 (.take 2 (.take 3 (.take 4 (.take 5 (.take 6 (.take 7 (.take 8 .done))))))))) (Exists.intro [] (Exists.intro [] (And.intro rfl ?_)))
        refine guardI hF (fun hF => ?_)
        refine guardI hF (fun hF => ?_)
        refine condI hF (fun hF => ?_) (fun hF => ?_)
        · refine Or.inl ?_
          have hz := someE hF
          subst hz
          refine Exists.intro [] (Exists.intro [] (Exists.intro [] (Exists.intro [] (Exists.intro [] (And.intro rfl (And.intro rfl (And.intro trivial trivial)))))))
        · refine Exists.intro (IntKind.i64.wrap (i + (1 : Int))) (And.intro hF (Exists.intro [] (Exists.intro [] (Exists.intro [] (Exists.intro [] (Exists.intro [] (And.intro rfl (And.intro rfl (And.intro rfl (And.intro rfl (And.intro trivial trivial)))))))))))
      · have hz := someE hF
        subst hz
        refine Exists.intro [] (Exists.intro [] (Exists.intro [] (Exists.intro [] (Exists.intro [] (And.intro rfl (And.intro trivial trivial))))))
    · rcases z1 with z1a | z1b
      · dsimp only [sumF] at hF
        refine And.intro ?_ trivial
        have hy := someE hF
        subst hy
        refine And.intro rfl (Exists.intro [] (Exists.intro [] (Exists.intro [] (Exists.intro [] (Exists.intro [] (And.intro rfl (And.intro rfl (And.intro trivial trivial))))))))
      · dsimp only [sumF] at hF
        refine And.intro ?_ trivial
        refine Or.inl ?_
        have hy := someE hF
        subst hy
        refine And.intro rfl (Exists.intro [] (Exists.intro [] (Exists.intro [] (Exists.intro [] (Exists.intro [] (And.intro rfl (And.intro rfl (And.intro trivial trivial))))))))
theorem C46_holds : C46.Holds Try.prog 46 := holds_of_vc tab_ok mixed (fn := Try.f46) (by kernel_rfl) rfl C46 (fun x y hF => C46_vc x.1 x.2 y hF)
theorem f46_in : ∃ fn, Try.prog.funcs[46]? = some fn ∧ fn.body.isSome = true ∧ (fn.name == "runtime.NumGoroutine") = false := ⟨Try.f46, by kernel_rfl, by kernel_rfl, by kernel_rfl⟩
end Go.Proofs
namespace Go.Proofs
open Go.AM
-- carousel/carouselref5.Alike
def f19_j1 (a : (List Int) × (List Int)) (b : (List Int) × (List Int)) : Option (Sum Unit Unit) :=
  bindF (f46 a.1 b.1) fun r2 =>
  bif (!r2) then
    some (Sum.inr ())
  else
    bif ((List.length a.2 : Int) != (List.length b.2 : Int)) then
      some (Sum.inr ())
    else
      some (Sum.inl ())
def f19_l2 (a : (List Int) × (List Int)) (b : (List Int) × (List Int)) (go : Int → Option (Sum Unit Unit)) (i : Int) : Option (Sum Unit Unit) :=
  bif (decide (i < (List.length a.2 : Int))) then
    guardF (0 ≤ i ∧ i < (List.length a.2 : Int)) <|
    guardF (0 ≤ i ∧ i < (List.length b.2 : Int)) <|
    bif ((rd (0 : Int) a.2 i) != (rd (0 : Int) b.2 i)) then
      some (Sum.inl ())
    else
      go (IntKind.i64.wrap (i + (1 : Int)))
  else
    some (Sum.inr ())
def f19 (a : (List Int) × (List Int)) (b : (List Int) × (List Int)) : Option Bool :=
  bindF (f19_j1 a b) fun z1 =>
  sumF z1 (fun z1a =>
    bindF (loopF (fun go x => f19_l2 a b go x) fuelN (0 : Int)) fun z3 =>
    sumF z3 (fun z3a =>
      some false) (fun z3b =>
      some true)) (fun z1b =>
    some false)
def C19 : Con where
  X := ((List Int) × (List Int)) × ((List Int) × (List Int))
  Y := Bool
  e := 0
  args x := [.dat (.p (.sl (.int .i64)) (.sl (.int .i64))) x.1, .dat (.p (.sl (.int .i64)) (.sl (.int .i64))) x.2]
  hin x := []
  F x := f19 x.1 x.2
  ret y := [.dat .bool y]
  hout y := []
  nout := 0
theorem C19_vc (a : (List Int) × (List Int)) (b : (List Int) × (List Int)) (y : Bool) (hF : f19 a b = some y) : vc Try.prog tab Try.f19.ntmps 0 (match Try.f19.body with | some c => c | none => .skip) (retK tab C19 Try.f19.results.toList y) (C19.shIn (a, b)).st := by
  unfold f19 at hF
  refine Or.inl ?_
  obtain ⟨z1, hz1, hF⟩ := bindE hF
  refine Or.inr ⟨Sum.elim (fun z1a => [(0, ⟨[(2, .raw false [(.ptr 0 0)]), (3, .raw false [(.ptr 1 0)])], [(0, .cells [(.d (.sl (.int .i64)) a.1), (.d (.sl (.int .i64)) a.2)]), (1, .cells [(.d (.sl (.int .i64)) b.1), (.d (.sl (.int .i64)) b.2)])], 2⟩)]) (fun z1b => [(1, ⟨[(4, .dat .bool false)], [], 0⟩)]) z1, ?_, ?_⟩
  · have hF := hz1
    clear hz1
    unfold f19_j1 at hF
    refine Or.inl ?_
    obtain ⟨r2, hr2, hF⟩ := bindE hF
    refine Or.inl (And.intro f46_in (callV0 (callI C46 (a.1, b.1) r2 [] false C46_holds hr2 rfl rfl ?_)))
    refine (And.intro rfl (And.intro rfl (And.intro (fun h => nomatch h) (And.intro rfl (And.intro rfl (And.intro trivial (And.intro trivial ?_)))))))
    refine condN hF (fun hF => ?_) (fun hF => ?_)
    · refine gdYF ?_
      refine gdYF ?_
      refine gdYF ?_
      refine gdYF ?_
      refine gdYF ?_
      refine gdYF ?_
      refine condF ?_
      refine condI hF (fun hF => ?_) (fun hF => ?_)
      · refine Or.inl ?_
        have hz := someE hF
        subst hz
        refine Exists.intro [] (Exists.intro [] (Exists.intro [] (Exists.intro [] (Exists.intro [] (And.intro rfl (And.intro rfl (And.intro trivial trivial)))))))
      · have hz := someE hF
        subst hz
        refine Exists.intro [] (Exists.intro [] (Exists.intro [] (Exists.intro [] (Exists.intro [(0, some 0), (1, some 1)] (And.intro rfl (And.intro (And.intro rfl (And.intro rfl trivial)) (And.intro rfl (And.intro rfl trivial))))))))
    · refine gdNF ?_
      refine gdNF ?_
      refine gdNF ?_
      refine gdNF ?_
      refine gdNF ?_
      refine gdNF ?_
      refine condT ?_
      refine condT ?_
      refine Or.inl ?_
      have hz := someE hF
      subst hz
      refine Exists.intro [] (Exists.intro [] (Exists.intro [] (Exists.intro [] (Exists.intro [] (And.intro rfl (And.intro rfl (And.intro trivial trivial)))))))
  · rcases z1 with z1a | z1b
    · dsimp only [sumF] at hF
      refine And.intro ?_ trivial
      refine Or.inl ?_
      refine Or.inl ?_
      obtain ⟨z3, hz3, hF⟩ := bindE hF
      refine loopI Int (Sum Unit Unit) (fun x => ⟨[(2, .raw false [(.ptr 0 0)]), (3, .raw false [(.ptr 1 0)]), (5, .dat (.int .i64) x)], [(0, .cells [(.d (.sl (.int .i64)) a.1), (.d (.sl (.int .i64)) a.2)]), (1, .cells [(.d (.sl (.int .i64)) b.1), (.d (.sl (.int .i64)) b.2)])], 2⟩) (fun z => Sum.elim (fun za => [(1, ⟨[(4, .dat .bool false)], [], 0⟩)]) (fun zb => [(2, ⟨[], [], 0⟩)]) z) (loopF (fun go x => f19_l2 a b go x)) fuelN (0 : Int) z3 (And.intro hz3 (And.intro (Exists.intro [] (Exists.intro [] (Exists.intro [] (Exists.intro [] (Exists.intro [(0, some 0), (1, some 1)] (And.intro rfl (And.intro rfl (And.intro (And.intro rfl (And.intro rfl trivial)) (And.intro rfl (And.intro rfl trivial)))))))))) (And.intro (fun _ _ h => loopZ h) (And.intro (fun m => fun i z hF => ?_) ?_))))
      · have hF : f19_l2 a b (loopF (fun go x => f19_l2 a b go x) m) i = some z := hF
        unfold f19_l2 at hF
        refine Or.inl ?_
        refine Or.inl ?_
        refine condI hF (fun hF => ?_) (fun hF => ?_)
        · refine Or.inl ?_
          refine Or.inl ?_
          refine Exists.intro (.take 0 (.take 1 (.take 2 (.take 3 (.take 4 (.take 5 (.take 6 (.take 7 (.take 8 (.take 9 (.take 10 .done))))))))))) (Exists.intro [] (Exists.intro [] (And.intro rfl ?_)))
          refine guardI hF (fun hF => ?_)
          refine guardI hF (fun hF => ?_)
          refine condI hF (fun hF => ?_) (fun hF => ?_)
          · refine Or.inl ?_
            have hz := someE hF
            subst hz
            refine Exists.intro [] (Exists.intro [] (Exists.intro [] (Exists.intro [] (Exists.intro [] (And.intro rfl (And.intro rfl (And.intro trivial trivial)))))))
          · refine Exists.intro (IntKind.i64.wrap (i + (1 : Int))) (And.intro hF (Exists.intro [] (Exists.intro [] (Exists.intro [] (Exists.intro [] (Exists.intro [(0, some 0), (1, some 1)] (And.intro rfl (And.intro rfl (And.intro (And.intro rfl (And.intro rfl trivial)) (And.intro rfl (And.intro rfl trivial)))))))))))
        · have hz := someE hF
          subst hz
          refine Exists.intro [] (Exists.intro [] (Exists.intro [] (Exists.intro [] (Exists.intro [] (And.intro rfl (And.intro trivial trivial))))))
      · rcases z3 with z3a | z3b
        · dsimp only [sumF] at hF
          refine And.intro ?_ trivial
          have hy := someE hF
          subst hy
          refine And.intro rfl (Exists.intro [] (Exists.intro [] (Exists.intro [] (Exists.intro [] (Exists.intro [] (And.intro rfl (And.intro rfl (And.intro trivial trivial))))))))
        · dsimp only [sumF] at hF
          refine And.intro ?_ trivial
          refine Or.inl ?_
          have hy := someE hF
          subst hy
          refine And.intro rfl (Exists.intro [] (Exists.intro [] (Exists.intro [] (Exists.intro [] (Exists.intro [] (And.intro rfl (And.intro rfl (And.intro trivial trivial))))))))
    · dsimp only [sumF] at hF
      refine And.intro ?_ trivial
      have hy := someE hF
      subst hy
      refine And.intro rfl (Exists.intro [] (Exists.intro [] (Exists.intro [] (Exists.intro [] (Exists.intro [] (And.intro rfl (And.intro rfl (And.intro trivial trivial))))))))
theorem C19_holds : C19.Holds Try.prog 19 := holds_of_vc tab_ok mixed (fn := Try.f19) (by kernel_rfl) rfl C19 (fun x y hF => C19_vc x.1 x.2 y hF)
theorem f19_in : ∃ fn, Try.prog.funcs[19]? = some fn ∧ fn.body.isSome = true ∧ (fn.name == "runtime.NumGoroutine") = false := ⟨Try.f19, by kernel_rfl, by kernel_rfl, by kernel_rfl⟩
end Go.Proofs
namespace Go.Proofs
open Go.AM
-- carousel/carousellaw7.awake
def f13 : Option Bool :=
  bindF (f22 (1 : Int) ([(4294967296 : Int), (8589934592 : Int)])) fun q2_14 =>
  bindF (f22 (2 : Int) ([(12884901888 : Int), (17179869184 : Int)])) fun r1 =>
  bindF (f17 (q2_14.2, q2_14.1) (r1.2, r1.1)) fun r2 =>
  bif (r2.1 == (0 : Int)) then
    bindF (f22 (1 : Int) ([(47244640256 : Int)])) fun q2_5 =>
    bindF (f19 (r2.2.1, r2.2.2) (q2_5.2, q2_5.1)) fun q2_6 =>
    bif q2_6 then
      bindF (f14 ([(4294967296 : Int)]) ([(5 : Int), (9 : Int)])) fun q2_11 =>
      some (q2_11 == (5 : Int))
    else
      some false
  else
    some false
def C13 : Con where
  X := Unit
  Y := Bool
  e := 0
  args x := []
  hin x := []
  F x := f13
  ret y := [.dat .bool y]
  hout y := []
  nout := 0
theorem C13_vc (y : Bool) (hF : f13 = some y) : vc Try.prog tab Try.f13.ntmps 0 (match Try.f13.body with | some c => c | none => .skip) (retK tab C13 Try.f13.results.toList y) (C13.shIn ()).st := by
  unfold f13 at hF
  refine Or.inl ?_
  refine Or.inl ?_
  refine Or.inl ?_
  obtain ⟨q2_14, hq2_14, hF⟩ := bindE hF
  refine Or.inl (And.intro f22_in (callV0 (callI C22 ((1 : Int), [(4294967296 : Int), (8589934592 : Int)]) q2_14 [] false C22_holds hq2_14 rfl rfl ?_)))
  refine (And.intro rfl (And.intro rfl (And.intro (fun h => nomatch h) (And.intro rfl (And.intro rfl (And.intro trivial (And.intro trivial ?_)))))))
  refine Or.inl ?_
  obtain ⟨r1, hr1, hF⟩ := bindE hF
  refine Or.inl (And.intro f22_in (callV0 (callI C22 ((2 : Int), [(12884901888 : Int), (17179869184 : Int)]) r1 [] false C22_holds hr1 rfl rfl ?_)))
  refine (And.intro rfl (And.intro rfl (And.intro (fun h => nomatch h) (And.intro rfl (And.intro rfl (And.intro trivial (And.intro trivial ?_)))))))
  obtain ⟨r2, hr2, hF⟩ := bindE hF
  refine Or.inl (And.intro f17_in (callV0 (callI C17 ((q2_14.2, q2_14.1), (r1.2, r1.1)) r2 [] true C17_holds hr2 rfl rfl ?_)))
  refine (And.intro rfl (And.intro rfl (And.intro rfl (And.intro rfl (And.intro (fun _ => rfl) (And.intro rfl (And.intro rfl (And.intro trivial (And.intro trivial ?_)))))))))
  refine Or.inl ?_
  refine Or.inl ?_
  refine Exists.intro (.take 0 (.take 1 (.take 2 (.take 3 (.alt 4 (.alt 5 (.alt 6 (.take 7 (.take 8 (.alt 9 (.alt 10 (.alt 11 (.take 12 (.take 13 (.take 14 .done))) .done) .done) (.alt 10 (.alt 9 (.alt 11 (.take 12 (.take 13 (.take 14 .done))) .done) .done) .done)))) .done) .done) .done))))) (Exists.intro [] (Exists.intro [] (And.intro rfl ?_)))
  refine condI hF (fun hF => ?_) (fun hF => ?_)
  · refine And.intro trivial ?_
    refine gdYT ?_
    refine Or.inl ?_
    refine And.intro trivial ?_
    refine gdYT ?_
    obtain ⟨q2_5, hq2_5, hF⟩ := bindE hF
    refine Or.inl (And.intro f22_in (callV0 (callI C22 ((1 : Int), [(47244640256 : Int)]) q2_5 [] false C22_holds hq2_5 rfl rfl ?_)))
    refine (And.intro rfl (And.intro rfl (And.intro (fun h => nomatch h) (And.intro rfl (And.intro rfl (And.intro trivial (And.intro trivial ?_)))))))
    refine And.intro trivial ?_
    refine gdYT ?_
    obtain ⟨q2_6, hq2_6, hF⟩ := bindE hF
    refine Or.inl (And.intro f19_in (callV0 (callI C19 ((r2.2.1, r2.2.2), (q2_5.2, q2_5.1)) q2_6 [] true C19_holds hq2_6 rfl rfl ?_)))
    refine (And.intro rfl (And.intro rfl (And.intro rfl (And.intro rfl (And.intro (fun _ => rfl) (And.intro rfl (And.intro rfl (And.intro trivial (And.intro trivial ?_)))))))))
    refine condT ?_
    refine And.intro (And.intro trivial ?_) ?_
    · refine condI hF (fun hF => ?_) (fun hF => ?_)
      · refine Or.inl ?_
        refine And.intro trivial ?_
        refine gdYT ?_
        refine Or.inl ?_
        refine And.intro trivial ?_
        refine gdYT ?_
        obtain ⟨q2_11, hq2_11, hF⟩ := bindE hF
        refine Or.inl (And.intro f14_in (callV0 (callI C14 ([(4294967296 : Int)], [(5 : Int), (9 : Int)]) q2_11 [] true C14_holds hq2_11 rfl rfl ?_)))
        refine (And.intro rfl (And.intro rfl (And.intro (fun _ => rfl) (And.intro rfl (And.intro rfl (And.intro trivial (And.intro trivial ?_)))))))
        refine gdYT ?_
        refine condT ?_
        have hy := someE hF
        subst hy
        refine And.intro rfl (Exists.intro [] (Exists.intro [] (Exists.intro [] (Exists.intro [] (Exists.intro [] (And.intro rfl (And.intro rfl (And.intro trivial trivial))))))))
      · refine And.intro trivial ?_
        refine gdNT ?_
        refine And.intro trivial ?_
        refine gdNT ?_
        refine gdNT ?_
        refine condF ?_
        have hy := someE hF
        subst hy
        refine And.intro rfl (Exists.intro [] (Exists.intro [] (Exists.intro [] (Exists.intro [] (Exists.intro [] (And.intro rfl (And.intro rfl (And.intro trivial trivial))))))))
    · refine condI hF (fun hF => ?_) (fun hF => ?_)
      · refine Or.inl ?_
        refine And.intro trivial ?_
        refine gdYT ?_
        refine Or.inl ?_
        refine And.intro trivial ?_
        refine gdYT ?_
        obtain ⟨q2_11, hq2_11, hF⟩ := bindE hF
        refine Or.inl (And.intro f14_in (callV0 (callI C14 ([(4294967296 : Int)], [(5 : Int), (9 : Int)]) q2_11 [] true C14_holds hq2_11 rfl rfl ?_)))
        refine (And.intro rfl (And.intro rfl (And.intro (fun _ => rfl) (And.intro rfl (And.intro rfl (And.intro trivial (And.intro trivial ?_)))))))
        refine gdYT ?_
        refine condT ?_
        have hy := someE hF
        subst hy
        refine And.intro rfl (Exists.intro [] (Exists.intro [] (Exists.intro [] (Exists.intro [] (Exists.intro [] (And.intro rfl (And.intro rfl (And.intro trivial trivial))))))))
      · refine And.intro trivial ?_
        refine gdNT ?_
        refine And.intro trivial ?_
        refine gdNT ?_
        refine gdNT ?_
        refine condF ?_
        have hy := someE hF
        subst hy
        refine And.intro rfl (Exists.intro [] (Exists.intro [] (Exists.intro [] (Exists.intro [] (Exists.intro [] (And.intro rfl (And.intro rfl (And.intro trivial trivial))))))))
  · refine And.intro trivial ?_
    refine gdNT ?_
    refine And.intro trivial ?_
    refine gdNT ?_
    refine And.intro trivial ?_
    refine gdNT ?_
    refine condF ?_
    refine And.intro (And.intro trivial ?_) ?_
    · refine gdNT ?_
      refine And.intro trivial ?_
      refine gdNT ?_
      refine And.intro trivial ?_
      refine gdNT ?_
      refine gdNT ?_
      refine condF ?_
      have hy := someE hF
      subst hy
      refine And.intro rfl (Exists.intro [] (Exists.intro [] (Exists.intro [] (Exists.intro [] (Exists.intro [] (And.intro rfl (And.intro rfl (And.intro trivial trivial))))))))
    · refine gdNT ?_
      refine And.intro trivial ?_
      refine gdNT ?_
      refine And.intro trivial ?_
      refine gdNT ?_
      refine gdNT ?_
      refine condF ?_
      have hy := someE hF
      subst hy
      refine And.intro rfl (Exists.intro [] (Exists.intro [] (Exists.intro [] (Exists.intro [] (Exists.intro [] (And.intro rfl (And.intro rfl (And.intro trivial trivial))))))))
theorem C13_holds : C13.Holds Try.prog 13 := holds_of_vc tab_ok mixed (fn := Try.f13) (by kernel_rfl) rfl C13 (fun x y hF => C13_vc y hF)
theorem f13_in : ∃ fn, Try.prog.funcs[13]? = some fn ∧ fn.body.isSome = true ∧ (fn.name == "runtime.NumGoroutine") = false := ⟨Try.f13, by kernel_rfl, by kernel_rfl, by kernel_rfl⟩
end Go.Proofs
namespace Go.Proofs
open Go.AM
-- carousel/carousellaw7.great
def f16 (t : (List Int) × (List Int)) (most : Int) : Option Bool :=
  bif (decide ((List.length t.1 : Int) > (10 : Int))) then
    some true
  else
    some (decide ((List.length t.2 : Int) > most))
def C16 : Con where
  X := ((List Int) × (List Int)) × Int
  Y := Bool
  e := 0
  args x := [.dat (.p (.sl (.int .i64)) (.sl (.int .i64))) x.1, .dat (.int .i64) x.2]
  hin x := []
  F x := f16 x.1 x.2
  ret y := [.dat .bool y]
  hout y := []
  nout := 0
theorem C16_vc (t : (List Int) × (List Int)) (most : Int) (y : Bool) (hF : f16 t most = some y) : vc Try.prog tab Try.f16.ntmps 0 (match Try.f16.body with | some c => c | none => .skip) (retK tab C16 Try.f16.results.toList y) (C16.shIn (t, most)).st := by
  unfold f16 at hF
  refine Or.inl ?_
  refine Or.inl ?_
  refine condN hF (fun hF => ?_) (fun hF => ?_)
  · refine gdYF ?_
    refine gdYF ?_
    refine gdYF ?_
    refine gdYF ?_
    refine condF ?_
    have hy := someE hF
    subst hy
    refine And.intro rfl (Exists.intro [] (Exists.intro [] (Exists.intro [] (Exists.intro [] (Exists.intro [] (And.intro rfl (And.intro rfl (And.intro trivial trivial))))))))
  · refine gdNF ?_
    refine gdNF ?_
    refine gdNF ?_
    refine gdNF ?_
    refine condT ?_
    have hy := someE hF
    subst hy
    refine And.intro rfl (Exists.intro [] (Exists.intro [] (Exists.intro [] (Exists.intro [] (Exists.intro [] (And.intro rfl (And.intro rfl (And.intro trivial trivial))))))))
theorem C16_holds : C16.Holds Try.prog 16 := holds_of_vc tab_ok mixed (fn := Try.f16) (by kernel_rfl) rfl C16 (fun x y hF => C16_vc x.1 x.2 y hF)
theorem f16_in : ∃ fn, Try.prog.funcs[16]? = some fn ∧ fn.body.isSome = true ∧ (fn.name == "runtime.NumGoroutine") = false := ⟨Try.f16, by kernel_rfl, by kernel_rfl, by kernel_rfl⟩
end Go.Proofs
namespace Go.Proofs
open Go.AM
-- carousel/carousellaw7.MatmFlips
def f4_j1 (a : (List Int) × (List Int)) (b : (List Int) × (List Int)) : Option (Sum Unit Unit) :=
  bindF (f16 (a.1, a.2) (200 : Int)) fun r5 =>
  bif r5 then
    some (Sum.inr ())
  else
    bindF (f16 (b.1, b.2) (200 : Int)) fun r6 =>
    bif r6 then
      some (Sum.inr ())
    else
      some (Sum.inl ())
def f4 (a : (List Int) × (List Int)) (b : (List Int) × (List Int)) : Option Bool :=
  bindF (f13) fun r1 =>
  bif (!r1) then
    some false
  else
    bindF (f4_j1 a b) fun z4 =>
    sumF z4 (fun z4a =>
      bindF (f17 (a.1, a.2) (b.1, b.2)) fun r7 =>
      bif (r7.1 != (0 : Int)) then
        some true
      else
        bindF (f18 (r7.2.1, r7.2.2)) fun r8 =>
        bindF (f18 (a.1, a.2)) fun r9 =>
        bindF (f18 (b.1, b.2)) fun r10 =>
        bindF (f17 (r10.2.1, r10.2.2) (r9.2.1, r9.2.2)) fun r11 =>
        bindF (f18 (r9.2.1, r9.2.2)) fun r12 =>
        bif (r8.1 == (0 : Int)) then
          bif (r9.1 == (0 : Int)) then
            bif (r10.1 == (0 : Int)) then
              bif (r11.1 == (0 : Int)) then
                bindF (f19 (r8.2.1, r8.2.2) (r11.2.1, r11.2.2)) fun r13 =>
                bif r13 then
                  bif (r12.1 == (0 : Int)) then
                    bindF (f19 (r12.2.1, r12.2.2) (a.1, a.2)) fun r14 =>
                    some r14
                  else
                    some false
                else
                  some false
              else
                some false
            else
              some false
          else
            some false
        else
          some false) (fun z4b =>
      some true)
def C4 : Con where
  X := ((List Int) × (List Int)) × ((List Int) × (List Int))
  Y := Bool
  e := 0
  args x := [.dat (.p (.sl (.int .i64)) (.sl (.int .i64))) x.1, .dat (.p (.sl (.int .i64)) (.sl (.int .i64))) x.2]
  hin x := []
  F x := f4 x.1 x.2
  ret y := [.dat .bool y]
  hout y := []
  nout := 0
theorem C4_vc (a : (List Int) × (List Int)) (b : (List Int) × (List Int)) (y : Bool) (hF : f4 a b = some y) : vc Try.prog tab Try.f4.ntmps 0 (match Try.f4.body with | some c => c | none => .skip) (retK tab C4 Try.f4.results.toList y) (C4.shIn (a, b)).st := by
  unfold f4 at hF
  refine Or.inl ?_
  refine Or.inl ?_
  refine Or.inl ?_
  obtain ⟨r1, hr1, hF⟩ := bindE hF
  refine Or.inl (And.intro f13_in (callV0 (callI C13 () r1 [] false C13_holds hr1 rfl rfl ?_)))
  refine (And.intro (fun h => nomatch h) (And.intro rfl (And.intro rfl (And.intro trivial (And.intro trivial ?_)))))
  refine condI hF (fun hF => ?_) (fun hF => ?_)
  · refine Or.inl ?_
    have hy := someE hF
    subst hy
    refine And.intro rfl (Exists.intro [] (Exists.intro [] (Exists.intro [] (Exists.intro [] (Exists.intro [] (And.intro rfl (And.intro rfl (And.intro trivial trivial))))))))
  · obtain ⟨z4, hz4, hF⟩ := bindE hF
    refine Or.inr ⟨Sum.elim (fun z4a => [(0, ⟨[(2, .raw false [(.ptr 0 0)]), (3, .raw false [(.ptr 1 0)])], [(0, .cells [(.d (.sl (.int .i64)) a.1), (.d (.sl (.int .i64)) a.2)]), (1, .cells [(.d (.sl (.int .i64)) b.1), (.d (.sl (.int .i64)) b.2)])], 2⟩)]) (fun z4b => [(1, ⟨[(4, .dat .bool true)], [], 0⟩)]) z4, ?_, ?_⟩
    · have hF := hz4
      clear hz4
      unfold f4_j1 at hF
      refine Or.inl ?_
      obtain ⟨r5, hr5, hF⟩ := bindE hF
      refine Or.inl (And.intro f16_in (callV0 (callI C16 ((a.1, a.2), (200 : Int)) r5 [] false C16_holds hr5 rfl rfl ?_)))
      refine (And.intro rfl (And.intro rfl (And.intro rfl (And.intro (fun h => nomatch h) (And.intro rfl (And.intro rfl (And.intro trivial (And.intro trivial ?_))))))))
      refine condN hF (fun hF => ?_) (fun hF => ?_)
      · refine gdYF ?_
        obtain ⟨r6, hr6, hF⟩ := bindE hF
        refine Or.inl (And.intro f16_in (callV0 (callI C16 ((b.1, b.2), (200 : Int)) r6 [] false C16_holds hr6 rfl rfl ?_)))
        refine (And.intro rfl (And.intro rfl (And.intro rfl (And.intro (fun h => nomatch h) (And.intro rfl (And.intro rfl (And.intro trivial (And.intro trivial ?_))))))))
        refine condF ?_
        refine condI hF (fun hF => ?_) (fun hF => ?_)
        · refine Or.inl ?_
          have hz := someE hF
          subst hz
          refine Exists.intro [] (Exists.intro [] (Exists.intro [] (Exists.intro [] (Exists.intro [] (And.intro rfl (And.intro rfl (And.intro trivial trivial)))))))
        · have hz := someE hF
          subst hz
          refine Exists.intro [] (Exists.intro [] (Exists.intro [] (Exists.intro [] (Exists.intro [(0, some 0), (1, some 1)] (And.intro rfl (And.intro (And.intro rfl (And.intro rfl trivial)) (And.intro rfl (And.intro rfl trivial))))))))
      · refine gdNF ?_
        refine condT ?_
        refine condT ?_
        refine Or.inl ?_
        have hz := someE hF
        subst hz
        refine Exists.intro [] (Exists.intro [] (Exists.intro [] (Exists.intro [] (Exists.intro [] (And.intro rfl (And.intro rfl (And.intro trivial trivial)))))))
    · rcases z4 with z4a | z4b
      · dsimp only [sumF] at hF
        refine And.intro ?_ trivial
        refine Or.inl ?_
        obtain ⟨r7, hr7, hF⟩ := bindE hF
        refine Or.inl (And.intro f17_in (callV0 (callI C17 ((a.1, a.2), (b.1, b.2)) r7 [] false C17_holds hr7 rfl rfl ?_)))
        refine (And.intro rfl (And.intro rfl (And.intro rfl (And.intro rfl (And.intro (fun h => nomatch h) (And.intro rfl (And.intro rfl (And.intro trivial (And.intro trivial ?_)))))))))
        refine Or.inl ?_
        refine Or.inl ?_
        refine Or.inl ?_
        refine condI hF (fun hF => ?_) (fun hF => ?_)
        · refine Or.inl ?_
          have hy := someE hF
          subst hy
          refine And.intro rfl (Exists.intro [] (Exists.intro [] (Exists.intro [] (Exists.intro [] (Exists.intro [] (And.intro rfl (And.intro rfl (And.intro trivial trivial))))))))
        · refine Or.inl ?_
          obtain ⟨r8, hr8, hF⟩ := bindE hF
          refine Or.inl (And.intro f18_in (callV0 (callI C18 (r7.2.1, r7.2.2) r8 [] true C18_holds hr8 rfl rfl ?_)))
          refine (And.intro rfl (And.intro rfl (And.intro (fun _ => rfl) (And.intro rfl (And.intro rfl (And.intro trivial (And.intro trivial ?_)))))))
          refine Or.inl ?_
          refine Or.inl ?_
          obtain ⟨r9, hr9, hF⟩ := bindE hF
          refine Or.inl (And.intro f18_in (callV0 (callI C18 (a.1, a.2) r9 [] false C18_holds hr9 rfl rfl ?_)))
          refine (And.intro rfl (And.intro rfl (And.intro (fun h => nomatch h) (And.intro rfl (And.intro rfl (And.intro trivial (And.intro trivial ?_)))))))
          refine Or.inl ?_
          refine Or.inl ?_
          obtain ⟨r10, hr10, hF⟩ := bindE hF
          refine Or.inl (And.intro f18_in (callV0 (callI C18 (b.1, b.2) r10 [] false C18_holds hr10 rfl rfl ?_)))
          refine (And.intro rfl (And.intro rfl (And.intro (fun h => nomatch h) (And.intro rfl (And.intro rfl (And.intro trivial (And.intro trivial ?_)))))))
          refine Or.inl ?_
          refine Or.inl ?_
          obtain ⟨r11, hr11, hF⟩ := bindE hF
          refine Or.inl (And.intro f17_in (callV0 (callI C17 ((r10.2.1, r10.2.2), (r9.2.1, r9.2.2)) r11 [] true C17_holds hr11 rfl rfl ?_)))
          refine (And.intro rfl (And.intro rfl (And.intro rfl (And.intro rfl (And.intro (fun _ => rfl) (And.intro rfl (And.intro rfl (And.intro trivial (And.intro trivial ?_)))))))))
          refine Or.inl ?_
          refine Or.inl ?_
          obtain ⟨r12, hr12, hF⟩ := bindE hF
          refine Or.inl (And.intro f18_in (callV0 (callI C18 (r9.2.1, r9.2.2) r12 [] true C18_holds hr12 rfl rfl ?_)))
          refine (And.intro rfl (And.intro rfl (And.intro (fun _ => rfl) (And.intro rfl (And.intro rfl (And.intro trivial (And.intro trivial ?_)))))))
          refine Or.inl ?_
          refine Or.inl ?_
          refine condI hF (fun hF => ?_) (fun hF => ?_)
          · refine gdYT ?_
            refine condT ?_
            refine condI hF (fun hF => ?_) (fun hF => ?_)
            · refine gdYT ?_
              refine condT ?_
              refine condI hF (fun hF => ?_) (fun hF => ?_)
              · refine gdYT ?_
                refine condT ?_
                refine condI hF (fun hF => ?_) (fun hF => ?_)
                · refine gdYT ?_
                  refine gdYT ?_
                  obtain ⟨r13, hr13, hF⟩ := bindE hF
                  refine Or.inl (And.intro f19_in (callV0 (callI C19 ((r8.2.1, r8.2.2), (r11.2.1, r11.2.2)) r13 [] true C19_holds hr13 rfl rfl ?_)))
                  refine (And.intro rfl (And.intro rfl (And.intro rfl (And.intro rfl (And.intro (fun _ => rfl) (And.intro rfl (And.intro rfl (And.intro trivial (And.intro trivial ?_)))))))))
                  refine condT ?_
                  refine condI hF (fun hF => ?_) (fun hF => ?_)
                  · refine gdYT ?_
                    refine condT ?_
                    refine condI hF (fun hF => ?_) (fun hF => ?_)
                    · refine gdYT ?_
                      refine gdYT ?_
                      obtain ⟨r14, hr14, hF⟩ := bindE hF
                      refine Or.inl (And.intro f19_in (callV0 (callI C19 ((r12.2.1, r12.2.2), (a.1, a.2)) r14 [] true C19_holds hr14 rfl rfl ?_)))
                      refine (And.intro rfl (And.intro rfl (And.intro rfl (And.intro rfl (And.intro (fun _ => rfl) (And.intro rfl (And.intro rfl (And.intro trivial (And.intro trivial ?_)))))))))
                      refine condT ?_
                      have hy := someE hF
                      subst hy
                      refine And.intro rfl (Exists.intro [] (Exists.intro [] (Exists.intro [] (Exists.intro [] (Exists.intro [] (And.intro rfl (And.intro rfl (And.intro trivial trivial))))))))
                    · refine gdNT ?_
                      refine gdNT ?_
                      refine condF ?_
                      have hy := someE hF
                      subst hy
                      refine And.intro rfl (Exists.intro [] (Exists.intro [] (Exists.intro [] (Exists.intro [] (Exists.intro [] (And.intro rfl (And.intro rfl (And.intro trivial trivial))))))))
                  · refine gdNT ?_
                    refine condF ?_
                    refine gdNT ?_
                    refine gdNT ?_
                    refine gdNT ?_
                    refine condF ?_
                    have hy := someE hF
                    subst hy
                    refine And.intro rfl (Exists.intro [] (Exists.intro [] (Exists.intro [] (Exists.intro [] (Exists.intro [] (And.intro rfl (And.intro rfl (And.intro trivial trivial))))))))
                · refine gdNT ?_
                  refine gdNT ?_
                  refine condF ?_
                  refine gdNT ?_
                  refine gdNT ?_
                  refine condF ?_
                  refine gdNT ?_
                  refine gdNT ?_
                  refine gdNT ?_
                  refine condF ?_
                  have hy := someE hF
                  subst hy
                  refine And.intro rfl (Exists.intro [] (Exists.intro [] (Exists.intro [] (Exists.intro [] (Exists.intro [] (And.intro rfl (And.intro rfl (And.intro trivial trivial))))))))
              · refine gdNT ?_
                refine condF ?_
                refine gdNT ?_
                refine gdNT ?_
                refine gdNT ?_
                refine condF ?_
                refine gdNT ?_
                refine gdNT ?_
                refine condF ?_
                refine gdNT ?_
                refine gdNT ?_
                refine gdNT ?_
                refine condF ?_
                have hy := someE hF
                subst hy
                refine And.intro rfl (Exists.intro [] (Exists.intro [] (Exists.intro [] (Exists.intro [] (Exists.intro [] (And.intro rfl (And.intro rfl (And.intro trivial trivial))))))))
            · refine gdNT ?_
              refine condF ?_
              refine gdNT ?_
              refine gdNT ?_
              refine condF ?_
              refine gdNT ?_
              refine gdNT ?_
              refine gdNT ?_
              refine condF ?_
              refine gdNT ?_
              refine gdNT ?_
              refine condF ?_
              refine gdNT ?_
              refine gdNT ?_
              refine gdNT ?_
              refine condF ?_
              have hy := someE hF
              subst hy
              refine And.intro rfl (Exists.intro [] (Exists.intro [] (Exists.intro [] (Exists.intro [] (Exists.intro [] (And.intro rfl (And.intro rfl (And.intro trivial trivial))))))))
          · refine gdNT ?_
            refine condF ?_
            refine gdNT ?_
            refine gdNT ?_
            refine condF ?_
            refine gdNT ?_
            refine gdNT ?_
            refine condF ?_
            refine gdNT ?_
            refine gdNT ?_
            refine gdNT ?_
            refine condF ?_
            refine gdNT ?_
            refine gdNT ?_
            refine condF ?_
            refine gdNT ?_
            refine gdNT ?_
            refine gdNT ?_
            refine condF ?_
            have hy := someE hF
            subst hy
            refine And.intro rfl (Exists.intro [] (Exists.intro [] (Exists.intro [] (Exists.intro [] (Exists.intro [] (And.intro rfl (And.intro rfl (And.intro trivial trivial))))))))
      · dsimp only [sumF] at hF
        refine And.intro ?_ trivial
        have hy := someE hF
        subst hy
        refine And.intro rfl (Exists.intro [] (Exists.intro [] (Exists.intro [] (Exists.intro [] (Exists.intro [] (And.intro rfl (And.intro rfl (And.intro trivial trivial))))))))
theorem C4_holds : C4.Holds Try.prog 4 := holds_of_vc tab_ok mixed (fn := Try.f4) (by kernel_rfl) rfl C4 (fun x y hF => C4_vc x.1 x.2 y hF)
theorem f4_in : ∃ fn, Try.prog.funcs[4]? = some fn ∧ fn.body.isSome = true ∧ (fn.name == "runtime.NumGoroutine") = false := ⟨Try.f4, by kernel_rfl, by kernel_rfl, by kernel_rfl⟩
end Go.Proofs
namespace Go.Proofs
open Go.AM
-- carousel/carouselref5.Good
def f47_j4 (d : List Int) (i : Int) : Option (Sum Unit Unit) :=
  guardF (0 ≤ i ∧ i < (List.length d : Int)) <|
  bif (decide ((rd (0 : Int) d i) < (1 : Int))) then
    some (Sum.inr ())
  else
    guardF (0 ≤ i ∧ i < (List.length d : Int)) <|
    bif (decide ((rd (0 : Int) d i) > (4096 : Int))) then
      some (Sum.inr ())
    else
      some (Sum.inl ())
def f47_l3 (d : List Int) (go : (Int × Int) → Option (Sum Unit Unit)) (n : Int) (i : Int) : Option (Sum Unit Unit) :=
  bif (decide (i < (List.length d : Int))) then
    bindF (f47_j4 d i) fun z4 =>
    sumF z4 (fun z4a =>
      guardF (0 ≤ i ∧ i < (List.length d : Int)) <|
      bif (decide ((IntKind.i64.wrap (n * (rd (0 : Int) d i))) > (4096 : Int))) then
        some (Sum.inl ())
      else
        go ((IntKind.i64.wrap (n * (rd (0 : Int) d i))), (IntKind.i64.wrap (i + (1 : Int))))) (fun z4b =>
      some (Sum.inl ()))
  else
    some (Sum.inr ())
def f47 (d : List Int) : Option Bool :=
  bif (decide ((List.length d : Int) > (4 : Int))) then
    some false
  else
    bindF (loopF (fun go x => f47_l3 d go x.1 x.2) fuelN ((1 : Int), (0 : Int))) fun z3 =>
    sumF z3 (fun z3a =>
      some false) (fun z3b =>
      some true)
def C47 : Con where
  X := List Int
  Y := Bool
  e := 0
  args x := [.dat (.sl (.int .i64)) x]
  hin x := []
  F x := f47 x
  ret y := [.dat .bool y]
  hout y := []
  nout := 0
theorem C47_vc (d : List Int) (y : Bool) (hF : f47 d = some y) : vc Try.prog tab Try.f47.ntmps 0 (match Try.f47.body with | some c => c | none => .skip) (retK tab C47 Try.f47.results.toList y) (C47.shIn d).st := by
  unfold f47 at hF
  refine Or.inl ?_
  refine Or.inl ?_
  refine Or.inl ?_
  refine condI hF (fun hF => ?_) (fun hF => ?_)
  · refine Or.inl ?_
    have hy := someE hF
    subst hy
    refine And.intro rfl (Exists.intro [] (Exists.intro [] (Exists.intro [] (Exists.intro [] (Exists.intro [] (And.intro rfl (And.intro rfl (And.intro trivial trivial))))))))
  · refine Or.inl ?_
    refine Or.inl ?_
    refine Or.inl ?_
    obtain ⟨z3, hz3, hF⟩ := bindE hF
    refine loopI (Int × Int) (Sum Unit Unit) (fun x => ⟨[(0, .dat (.sl (.int .i64)) d), (3, .dat (.int .i64) x.1), (4, .dat (.int .i64) x.2)], [], 0⟩) (fun z => Sum.elim (fun za => [(1, ⟨[(2, .dat .bool false)], [], 0⟩)]) (fun zb => [(2, ⟨[], [], 0⟩)]) z) (loopF (fun go x => f47_l3 d go x.1 x.2)) fuelN ((1 : Int), (0 : Int)) z3 (And.intro hz3 (And.intro (Exists.intro [] (Exists.intro [] (Exists.intro [] (Exists.intro [] (Exists.intro [] (And.intro rfl (And.intro rfl (And.intro rfl (And.intro rfl (And.intro trivial trivial)))))))))) (And.intro (fun _ _ h => loopZ h) (And.intro (fun m => curI (fun n => fun i z hF => ?_)) ?_))))
    · have hF : f47_l3 d (loopF (fun go x => f47_l3 d go x.1 x.2) m) n i = some z := hF
      unfold f47_l3 at hF
      refine Or.inl ?_
      refine Or.inl ?_
      refine condI hF (fun hF => ?_) (fun hF => ?_)
      · refine Or.inl ?_
        obtain ⟨z4, hz4, hF⟩ := bindE hF
        refine Or.inr ⟨Sum.elim (fun z4a => [(0, ⟨[(0, .dat (.sl (.int .i64)) d), (3, .dat (.int .i64) n), (4, .dat (.int .i64) i)], [], 0⟩)]) (fun z4b => [(1, ⟨[(2, .dat .bool false)], [], 0⟩)]) z4, ?_, ?_⟩
        · have hF := hz4
          clear hz4
          unfold f47_j4 at hF
          refine Or.inl ?_
          refine guardI hF (fun hF => ?_)
          refine condN hF (fun hF => ?_) (fun hF => ?_)
          · refine gdYF ?_
            refine gdYF ?_
            refine guardI hF (fun hF => ?_)
            refine gdYF ?_
            refine gdYF ?_
            refine condF ?_
            refine condI hF (fun hF => ?_) (fun hF => ?_)
            · refine Or.inl ?_
              have hz := someE hF
              subst hz
              refine Exists.intro [] (Exists.intro [] (Exists.intro [] (Exists.intro [] (Exists.intro [] (And.intro rfl (And.intro rfl (And.intro trivial trivial)))))))
            · have hz := someE hF
              subst hz
              refine Exists.intro [] (Exists.intro [] (Exists.intro [] (Exists.intro [] (Exists.intro [] (And.intro rfl (And.intro rfl (And.intro rfl (And.intro rfl (And.intro trivial trivial)))))))))
          · refine gdNF ?_
            refine gdNF ?_
            refine gdNF ?_
            refine gdNF ?_
            refine condT ?_
            refine condT ?_
            refine Or.inl ?_
            have hz := someE hF
            subst hz
            refine Exists.intro [] (Exists.intro [] (Exists.intro [] (Exists.intro [] (Exists.intro [] (And.intro rfl (And.intro rfl (And.intro trivial trivial)))))))
        · rcases z4 with z4a | z4b
          · dsimp only [sumF] at hF
            refine And.intro ?_ trivial
            refine Or.inl ?_
            refine guardI hF (fun hF => ?_)
            refine Or.inl ?_
            refine condI hF (fun hF => ?_) (fun hF => ?_)
            · refine Or.inl ?_
              have hz := someE hF
              subst hz
              refine Exists.intro [] (Exists.intro [] (Exists.intro [] (Exists.intro [] (Exists.intro [] (And.intro rfl (And.intro rfl (And.intro trivial trivial)))))))
            · refine Exists.intro ((IntKind.i64.wrap (n * (rd (0 : Int) d i))), (IntKind.i64.wrap (i + (1 : Int)))) (And.intro hF (Exists.intro [] (Exists.intro [] (Exists.intro [] (Exists.intro [] (Exists.intro [] (And.intro rfl (And.intro rfl (And.intro rfl (And.intro rfl (And.intro trivial trivial)))))))))))
          · dsimp only [sumF] at hF
            refine And.intro ?_ trivial
            have hz := someE hF
            subst hz
            refine Exists.intro [] (Exists.intro [] (Exists.intro [] (Exists.intro [] (Exists.intro [] (And.intro rfl (And.intro rfl (And.intro trivial trivial)))))))
      · have hz := someE hF
        subst hz
        refine Exists.intro [] (Exists.intro [] (Exists.intro [] (Exists.intro [] (Exists.intro [] (And.intro rfl (And.intro trivial trivial))))))
    · rcases z3 with z3a | z3b
      · dsimp only [sumF] at hF
        refine And.intro ?_ trivial
        have hy := someE hF
        subst hy
        refine And.intro rfl (Exists.intro [] (Exists.intro [] (Exists.intro [] (Exists.intro [] (Exists.intro [] (And.intro rfl (And.intro rfl (And.intro trivial trivial))))))))
      · dsimp only [sumF] at hF
        refine And.intro ?_ trivial
        refine Or.inl ?_
        have hy := someE hF
        subst hy
        refine And.intro rfl (Exists.intro [] (Exists.intro [] (Exists.intro [] (Exists.intro [] (Exists.intro [] (And.intro rfl (And.intro rfl (And.intro trivial trivial))))))))
theorem C47_holds : C47.Holds Try.prog 47 := holds_of_vc tab_ok mixed (fn := Try.f47) (by kernel_rfl) rfl C47 (fun x y hF => C47_vc x y hF)
theorem f47_in : ∃ fn, Try.prog.funcs[47]? = some fn ∧ fn.body.isSome = true ∧ (fn.name == "runtime.NumGoroutine") = false := ⟨Try.f47, by kernel_rfl, by kernel_rfl, by kernel_rfl⟩
end Go.Proofs
namespace Go.Proofs
open Go.AM
-- carousel/carouselref5.Size
def f48_l1 (d : List Int) (go : (Int × Int) → Option Int) (n : Int) (i : Int) : Option Int :=
  bif (decide (i < (List.length d : Int))) then
    guardF (0 ≤ i ∧ i < (List.length d : Int)) <|
    go ((IntKind.i64.wrap (n * (rd (0 : Int) d i))), (IntKind.i64.wrap (i + (1 : Int))))
  else
    some n
def f48 (d : List Int) : Option Int :=
  bindF (f47 d) fun r1 =>
  bif (!r1) then
    some (0 : Int)
  else
    bindF (loopF (fun go x => f48_l1 d go x.1 x.2) fuelN ((1 : Int), (0 : Int))) fun z2 =>
    some z2
def C48 : Con where
  X := List Int
  Y := Int
  e := 0
  args x := [.dat (.sl (.int .i64)) x]
  hin x := []
  F x := f48 x
  ret y := [.dat (.int .i64) y]
  hout y := []
  nout := 0
theorem C48_vc (d : List Int) (y : Int) (hF : f48 d = some y) : vc Try.prog tab Try.f48.ntmps 0 (match Try.f48.body with | some c => c | none => .skip) (retK tab C48 Try.f48.results.toList y) (C48.shIn d).st := by
  unfold f48 at hF
  refine Or.inl ?_
  refine Or.inl ?_
  refine Or.inl ?_
  obtain ⟨r1, hr1, hF⟩ := bindE hF
  refine Or.inl (And.intro f47_in (callV0 (callI C47 d r1 [] false C47_holds hr1 rfl rfl ?_)))
  refine (And.intro rfl (And.intro (fun h => nomatch h) (And.intro rfl (And.intro rfl (And.intro trivial (And.intro trivial ?_))))))
  refine condI hF (fun hF => ?_) (fun hF => ?_)
  · refine Or.inl ?_
    have hy := someE hF
    subst hy
    refine And.intro rfl (Exists.intro [] (Exists.intro [] (Exists.intro [] (Exists.intro [] (Exists.intro [] (And.intro rfl (And.intro rfl (And.intro trivial trivial))))))))
  · refine Or.inl ?_
    refine Or.inl ?_
    refine Or.inl ?_
    obtain ⟨z2, hz2, hF⟩ := bindE hF
    refine loopI (Int × Int) Int (fun x => ⟨[(0, .dat (.sl (.int .i64)) d), (3, .dat (.int .i64) x.1), (4, .dat (.int .i64) x.2)], [], 0⟩) (fun z => [(2, ⟨[(3, .dat (.int .i64) z)], [], 0⟩)]) (loopF (fun go x => f48_l1 d go x.1 x.2)) fuelN ((1 : Int), (0 : Int)) z2 (And.intro hz2 (And.intro (Exists.intro [] (Exists.intro [] (Exists.intro [] (Exists.intro [] (Exists.intro [] (And.intro rfl (And.intro rfl (And.intro rfl (And.intro rfl (And.intro trivial trivial)))))))))) (And.intro (fun _ _ h => loopZ h) (And.intro (fun m => curI (fun n => fun i z hF => ?_)) ?_))))
    · have hF : f48_l1 d (loopF (fun go x => f48_l1 d go x.1 x.2) m) n i = some z := hF
      unfold f48_l1 at hF
      refine Or.inl ?_
      refine Or.inl ?_
      refine condI hF (fun hF => ?_) (fun hF => ?_)
      · refine Or.inl ?_
        refine guardI hF (fun hF => ?_)
        refine Exists.intro ((IntKind.i64.wrap (n * (rd (0 : Int) d i))), (IntKind.i64.wrap (i + (1 : Int)))) (And.intro hF (Exists.intro [] (Exists.intro [] (Exists.intro [] (Exists.intro [] (Exists.intro [] (And.intro rfl (And.intro rfl (And.intro rfl (And.intro rfl (And.intro trivial trivial)))))))))))
      · have hz := someE hF
        subst hz
        refine Exists.intro [] (Exists.intro [] (Exists.intro [] (Exists.intro [] (Exists.intro [] (And.intro rfl (And.intro rfl (And.intro trivial trivial)))))))
    · refine And.intro ?_ trivial
      refine Or.inl ?_
      have hy := someE hF
      subst hy
      refine And.intro rfl (Exists.intro [] (Exists.intro [] (Exists.intro [] (Exists.intro [] (Exists.intro [] (And.intro rfl (And.intro rfl (And.intro trivial trivial))))))))
theorem C48_holds : C48.Holds Try.prog 48 := holds_of_vc tab_ok mixed (fn := Try.f48) (by kernel_rfl) rfl C48 (fun x y hF => C48_vc x y hF)
theorem f48_in : ∃ fn, Try.prog.funcs[48]? = some fn ∧ fn.body.isSome = true ∧ (fn.name == "runtime.NumGoroutine") = false := ⟨Try.f48, by kernel_rfl, by kernel_rfl, by kernel_rfl⟩
end Go.Proofs
namespace Go.Proofs
open Go.AM
-- carousel/carouselref5.Is
def f20 (t : (List Int) × (List Int)) : Option Bool :=
  bindF (f47 t.1) fun q1_2 =>
  bif q1_2 then
    bindF (f48 t.1) fun q1_9 =>
    some ((List.length t.2 : Int) == q1_9)
  else
    some false
def C20 : Con where
  X := (List Int) × (List Int)
  Y := Bool
  e := 0
  args x := [.dat (.p (.sl (.int .i64)) (.sl (.int .i64))) x]
  hin x := []
  F x := f20 x
  ret y := [.dat .bool y]
  hout y := []
  nout := 0
theorem C20_vc (t : (List Int) × (List Int)) (y : Bool) (hF : f20 t = some y) : vc Try.prog tab Try.f20.ntmps 0 (match Try.f20.body with | some c => c | none => .skip) (retK tab C20 Try.f20.results.toList y) (C20.shIn t).st := by
  unfold f20 at hF
  refine Or.inl ?_
  refine Or.inl ?_
  refine Exists.intro (.take 0 (.take 1 (.alt 2 (.take 3 (.take 4 (.take 5 (.take 6 (.take 7 (.take 8 (.alt 9 (.take 10 (.take 11 (.take 12 .done))) .done))))))) .done))) (Exists.intro [] (Exists.intro [] (And.intro rfl ?_)))
  refine And.intro trivial ?_
  obtain ⟨q1_2, hq1_2, hF⟩ := bindE hF
  refine Or.inl (And.intro f47_in (callV0 (callI C47 t.1 q1_2 [] false C47_holds hq1_2 rfl rfl ?_)))
  refine (And.intro rfl (And.intro (fun h => nomatch h) (And.intro rfl (And.intro rfl (And.intro trivial (And.intro trivial ?_))))))
  refine condI hF (fun hF => ?_) (fun hF => ?_)
  · refine gdYT ?_
    refine gdYT ?_
    refine gdYT ?_
    refine gdYT ?_
    refine And.intro trivial ?_
    refine gdYT ?_
    obtain ⟨q1_9, hq1_9, hF⟩ := bindE hF
    refine Or.inl (And.intro f48_in (callV0 (callI C48 t.1 q1_9 [] false C48_holds hq1_9 rfl rfl ?_)))
    refine (And.intro rfl (And.intro (fun h => nomatch h) (And.intro rfl (And.intro rfl (And.intro trivial (And.intro trivial ?_))))))
    refine gdYT ?_
    refine condT ?_
    have hy := someE hF
    subst hy
    refine And.intro rfl (Exists.intro [] (Exists.intro [] (Exists.intro [] (Exists.intro [] (Exists.intro [] (And.intro rfl (And.intro rfl (And.intro trivial trivial))))))))
  · refine gdNT ?_
    refine gdNT ?_
    refine gdNT ?_
    refine gdNT ?_
    refine And.intro trivial ?_
    refine gdNT ?_
    refine gdNT ?_
    refine condF ?_
    have hy := someE hF
    subst hy
    refine And.intro rfl (Exists.intro [] (Exists.intro [] (Exists.intro [] (Exists.intro [] (Exists.intro [] (And.intro rfl (And.intro rfl (And.intro trivial trivial))))))))
theorem C20_holds : C20.Holds Try.prog 20 := holds_of_vc tab_ok mixed (fn := Try.f20) (by kernel_rfl) rfl C20 (fun x y hF => C20_vc x y hF)
theorem f20_in : ∃ fn, Try.prog.funcs[20]? = some fn ∧ fn.body.isSome = true ∧ (fn.name == "runtime.NumGoroutine") = false := ⟨Try.f20, by kernel_rfl, by kernel_rfl, by kernel_rfl⟩
end Go.Proofs
namespace Go.Proofs
open Go.AM
-- carousel/carouselref5.New
def f21_l1 (v : Int) (go : (Int × (List Int)) → Option (List Int)) (i : Int) (l3 : List Int) : Option (List Int) :=
  bif (decide (i < (List.length l3 : Int))) then
    guardF (0 ≤ i ∧ i < (List.length l3 : Int)) <|
    go ((IntKind.i64.wrap (i + (1 : Int))), (List.set l3 (Int.toNat i) v))
  else
    some l3
def f21 (d : List Int) (v : Int) : Option ((List Int) × (List Int)) :=
  guardF ((List.length ([] : List Int) + List.length d) * 8 ≤ 140737488355328) <|
  bindF (f48 d) fun r1 =>
  guardF (0 ≤ r1 ∧ r1 ≤ r1 ∧ Int.toNat r1 * 8 ≤ 140737488355328) <|
  bindF (loopF (fun go x => f21_l1 v go x.1 x.2) fuelN ((0 : Int), (List.replicate (Int.toNat r1) (0 : Int)))) fun z2 =>
  some ((([] : List Int) ++ d), z2)
def C21 : Con where
  X := (List Int) × Int
  Y := (List Int) × (List Int)
  e := 0
  args x := [.dat (.sl (.int .i64)) x.1, .dat (.int .i64) x.2]
  hin x := []
  F x := f21 x.1 x.2
  ret y := [.raw true [(.osl 0), (.osl 1)]]
  hout y := [(0, .arr 3 (.int .i64) y.1), (1, .arr 24 (.int .i64) y.2)]
  nout := 2
theorem C21_vc (d : List Int) (v : Int) (y : (List Int) × (List Int)) (hF : f21 d v = some y) : vc Try.prog tab Try.f21.ntmps 0 (match Try.f21.body with | some c => c | none => .skip) (retK tab C21 Try.f21.results.toList y) (C21.shIn (d, v)).st := by
  unfold f21 at hF
  refine Or.inl ?_
  refine Or.inl ?_
  refine Or.inl ?_
  refine Or.inl ?_
  refine guardI hF (fun hF => ?_)
  obtain ⟨r1, hr1, hF⟩ := bindE hF
  refine Or.inl (And.intro f48_in (callV0 (callI C48 d r1 [] false C48_holds hr1 rfl rfl ?_)))
  refine (And.intro rfl (And.intro (fun h => nomatch h) (And.intro rfl (And.intro rfl (And.intro trivial (And.intro trivial ?_))))))
  refine guardI hF (fun hF => ?_)
  refine Or.inl ?_
  refine Or.inl ?_
  refine Or.inl ?_
  obtain ⟨z2, hz2, hF⟩ := bindE hF
  refine loopI (Int × (List Int)) (List Int) (fun x => ⟨[(1, .dat (.int .i64) v), (4, .raw false [(.ptr 0 0)]), (5, .raw false [(.ptr 1 0)]), (6, .dat (.int .i64) x.1)], [(0, .cells [(.c (.slice none 0 0)), (.c (.slice none 0 0))]), (1, .cells [(.osl 2), (.osl 3)]), (2, .arr 3 (.int .i64) (([] : List Int) ++ d)), (3, .arr 24 (.int .i64) x.2)], 4⟩) (fun z => [(2, ⟨[(4, .raw false [(.ptr 0 0)]), (5, .raw false [(.ptr 1 0)])], [(0, .cells [(.c (.slice none 0 0)), (.c (.slice none 0 0))]), (1, .cells [(.osl 2), (.osl 3)]), (2, .arr 3 (.int .i64) (([] : List Int) ++ d)), (3, .arr 24 (.int .i64) z)], 4⟩)]) (loopF (fun go x => f21_l1 v go x.1 x.2)) fuelN ((0 : Int), (List.replicate (Int.toNat r1) (0 : Int))) z2 (And.intro hz2 (And.intro (Exists.intro [] (Exists.intro [] (Exists.intro [] (Exists.intro [] (Exists.intro [(0, some 0), (1, some 4), (2, some 2), (3, some 3)] (And.intro rfl (And.intro rfl (And.intro rfl (And.intro (And.intro rfl (And.intro rfl trivial)) (And.intro rfl (And.intro rfl (And.intro rfl (And.intro rfl trivial))))))))))))) (And.intro (fun _ _ h => loopZ h) (And.intro (fun m => curI (fun i => fun l3 z hF => ?_)) ?_))))
  · have hF : f21_l1 v (loopF (fun go x => f21_l1 v go x.1 x.2) m) i l3 = some z := hF
    unfold f21_l1 at hF
    refine Or.inl ?_
    refine Or.inl ?_
    refine condI hF (fun hF => ?_) (fun hF => ?_)
    · refine Or.inl ?_
      refine guardI hF (fun hF => ?_)
      refine Or.inl ?_
      refine Exists.intro ((IntKind.i64.wrap (i + (1 : Int))), (List.set l3 (Int.toNat i) v)) (And.intro hF (Exists.intro [] (Exists.intro [] (Exists.intro [] (Exists.intro [] (Exists.intro [(0, some 0), (1, some 1), (2, some 2), (3, some 3)] (And.intro rfl (And.intro rfl (And.intro rfl (And.intro (And.intro rfl (And.intro rfl trivial)) (And.intro rfl (And.intro rfl (And.intro rfl (And.intro rfl trivial))))))))))))))
    · have hz := someE hF
      subst hz
      refine Exists.intro [] (Exists.intro [] (Exists.intro [] (Exists.intro [] (Exists.intro [(0, some 0), (1, some 1), (2, some 2), (3, some 3)] (And.intro rfl (And.intro (And.intro rfl (And.intro rfl trivial)) (And.intro rfl (And.intro rfl (And.intro rfl (And.intro rfl trivial))))))))))
  · refine And.intro ?_ trivial
    refine Or.inl ?_
    refine Or.inl ?_
    have hy := someE hF
    subst hy
    refine And.intro rfl (Exists.intro [] (Exists.intro [] (Exists.intro [] (Exists.intro [] (Exists.intro [(0, some 2), (1, some 3)] (And.intro rfl (And.intro (And.intro rfl trivial) (And.intro rfl (And.intro rfl trivial)))))))))
theorem C21_holds : C21.Holds Try.prog 21 := holds_of_vc tab_ok mixed (fn := Try.f21) (by kernel_rfl) rfl C21 (fun x y hF => C21_vc x.1 x.2 y hF)
theorem f21_in : ∃ fn, Try.prog.funcs[21]? = some fn ∧ fn.body.isSome = true ∧ (fn.name == "runtime.NumGoroutine") = false := ⟨Try.f21, by kernel_rfl, by kernel_rfl, by kernel_rfl⟩
end Go.Proofs
namespace Go.Proofs
open Go.AM
-- carousel/carousellaw7.MatmOnes
def f5_j1 (a : (List Int) × (List Int)) : Option (Sum Unit Unit) :=
  bindF (f16 (a.1, a.2) (200 : Int)) fun r5 =>
  bif r5 then
    some (Sum.inr ())
  else
    bif ((List.length a.1 : Int) != (2 : Int)) then
      some (Sum.inr ())
    else
      bindF (f20 (a.1, a.2)) fun r6 =>
      bif (!r6) then
        some (Sum.inr ())
      else
        guardF (0 ≤ (1 : Int) ∧ (1 : Int) < (List.length a.1 : Int)) <|
        bif (decide ((rd (0 : Int) a.1 (1 : Int)) > (40 : Int))) then
          some (Sum.inr ())
        else
          some (Sum.inl ())
def f5_l2 (a : (List Int) × (List Int)) (go : (Int × (List Int)) → Option (List Int)) (i : Int) (l3 : List Int) : Option (List Int) :=
  bif (decide (i < (rd (0 : Int) a.1 (1 : Int)))) then
    guardF (0 ≤ (IntKind.i64.wrap ((IntKind.i64.wrap (i * (rd (0 : Int) a.1 (1 : Int)))) + i)) ∧ (IntKind.i64.wrap ((IntKind.i64.wrap (i * (rd (0 : Int) a.1 (1 : Int)))) + i)) < (List.length l3 : Int)) <|
    go ((IntKind.i64.wrap (i + (1 : Int))), (List.set l3 (Int.toNat (IntKind.i64.wrap ((IntKind.i64.wrap (i * (rd (0 : Int) a.1 (1 : Int)))) + i))) (4294967296 : Int)))
  else
    some l3
def f5 (a : (List Int) × (List Int)) : Option Bool :=
  bindF (f13) fun r1 =>
  bif (!r1) then
    some false
  else
    bindF (f5_j1 a) fun z4 =>
    sumF z4 (fun z4a =>
      guardF (0 ≤ (1 : Int) ∧ (1 : Int) < (List.length a.1 : Int)) <|
      bindF (f21 ([(rd (0 : Int) a.1 (1 : Int)), (rd (0 : Int) a.1 (1 : Int))]) (0 : Int)) fun r7 =>
      bindF (loopF (fun go x => f5_l2 a go x.1 x.2) fuelN ((0 : Int), r7.2)) fun z8 =>
      bindF (f17 (a.1, a.2) (r7.1, z8)) fun r9 =>
      bif (r9.1 == (0 : Int)) then
        bindF (f19 (r9.2.1, r9.2.2) (a.1, a.2)) fun r10 =>
        some r10
      else
        some false) (fun z4b =>
      some true)
def C5 : Con where
  X := (List Int) × (List Int)
  Y := Bool
  e := 0
  args x := [.dat (.p (.sl (.int .i64)) (.sl (.int .i64))) x]
  hin x := []
  F x := f5 x
  ret y := [.dat .bool y]
  hout y := []
  nout := 0
theorem C5_vc (a : (List Int) × (List Int)) (y : Bool) (hF : f5 a = some y) : vc Try.prog tab Try.f5.ntmps 0 (match Try.f5.body with | some c => c | none => .skip) (retK tab C5 Try.f5.results.toList y) (C5.shIn a).st := by
  unfold f5 at hF
  refine Or.inl ?_
  refine Or.inl ?_
  refine Or.inl ?_
  obtain ⟨r1, hr1, hF⟩ := bindE hF
  refine Or.inl (And.intro f13_in (callV0 (callI C13 () r1 [] false C13_holds hr1 rfl rfl ?_)))
  refine (And.intro (fun h => nomatch h) (And.intro rfl (And.intro rfl (And.intro trivial (And.intro trivial ?_)))))
  refine condI hF (fun hF => ?_) (fun hF => ?_)
  · refine Or.inl ?_
    have hy := someE hF
    subst hy
    refine And.intro rfl (Exists.intro [] (Exists.intro [] (Exists.intro [] (Exists.intro [] (Exists.intro [] (And.intro rfl (And.intro rfl (And.intro trivial trivial))))))))
  · obtain ⟨z4, hz4, hF⟩ := bindE hF
    refine Or.inr ⟨Sum.elim (fun z4a => [(0, ⟨[(1, .raw false [(.ptr 0 0)])], [(0, .cells [(.d (.sl (.int .i64)) a.1), (.d (.sl (.int .i64)) a.2)])], 1⟩)]) (fun z4b => [(1, ⟨[(2, .dat .bool true)], [], 0⟩)]) z4, ?_, ?_⟩
    · have hF := hz4
      clear hz4
      unfold f5_j1 at hF
      refine Or.inl ?_
      obtain ⟨r5, hr5, hF⟩ := bindE hF
      refine Or.inl (And.intro f16_in (callV0 (callI C16 ((a.1, a.2), (200 : Int)) r5 [] false C16_holds hr5 rfl rfl ?_)))
      refine (And.intro rfl (And.intro rfl (And.intro rfl (And.intro (fun h => nomatch h) (And.intro rfl (And.intro rfl (And.intro trivial (And.intro trivial ?_))))))))
      refine condN hF (fun hF => ?_) (fun hF => ?_)
      · refine gdYF ?_
        refine gdYF ?_
        refine gdYF ?_
        refine condF ?_
        refine condN hF (fun hF => ?_) (fun hF => ?_)
        · refine gdYF ?_
          obtain ⟨r6, hr6, hF⟩ := bindE hF
          refine Or.inl (And.intro f20_in (callV0 (callI C20 (a.1, a.2) r6 [] false C20_holds hr6 rfl rfl ?_)))
          refine (And.intro rfl (And.intro rfl (And.intro (fun h => nomatch h) (And.intro rfl (And.intro rfl (And.intro trivial (And.intro trivial ?_)))))))
          refine gdYF ?_
          refine condF ?_
          refine condN hF (fun hF => ?_) (fun hF => ?_)
          · refine gdYF ?_
            refine gdYF ?_
            refine guardI hF (fun hF => ?_)
            refine gdYF ?_
            refine gdYF ?_
            refine condF ?_
            refine condI hF (fun hF => ?_) (fun hF => ?_)
            · refine Or.inl ?_
              have hz := someE hF
              subst hz
              refine Exists.intro [] (Exists.intro [] (Exists.intro [] (Exists.intro [] (Exists.intro [] (And.intro rfl (And.intro rfl (And.intro trivial trivial)))))))
            · have hz := someE hF
              subst hz
              refine Exists.intro [] (Exists.intro [] (Exists.intro [] (Exists.intro [] (Exists.intro [(0, some 0)] (And.intro rfl (And.intro (And.intro rfl trivial) (And.intro rfl trivial)))))))
          · refine gdNF ?_
            refine gdNF ?_
            refine gdNF ?_
            refine gdNF ?_
            refine condT ?_
            refine condT ?_
            refine Or.inl ?_
            have hz := someE hF
            subst hz
            refine Exists.intro [] (Exists.intro [] (Exists.intro [] (Exists.intro [] (Exists.intro [] (And.intro rfl (And.intro rfl (And.intro trivial trivial)))))))
        · refine gdNF ?_
          refine gdNF ?_
          refine condT ?_
          refine gdNF ?_
          refine gdNF ?_
          refine gdNF ?_
          refine gdNF ?_
          refine gdNF ?_
          refine condT ?_
          refine condT ?_
          refine Or.inl ?_
          have hz := someE hF
          subst hz
          refine Exists.intro [] (Exists.intro [] (Exists.intro [] (Exists.intro [] (Exists.intro [] (And.intro rfl (And.intro rfl (And.intro trivial trivial)))))))
      · refine gdNF ?_
        refine gdNF ?_
        refine gdNF ?_
        refine condT ?_
        refine gdNF ?_
        refine gdNF ?_
        refine gdNF ?_
        refine condT ?_
        refine gdNF ?_
        refine gdNF ?_
        refine gdNF ?_
        refine gdNF ?_
        refine gdNF ?_
        refine condT ?_
        refine condT ?_
        refine Or.inl ?_
        have hz := someE hF
        subst hz
        refine Exists.intro [] (Exists.intro [] (Exists.intro [] (Exists.intro [] (Exists.intro [] (And.intro rfl (And.intro rfl (And.intro trivial trivial)))))))
    · rcases z4 with z4a | z4b
      · dsimp only [sumF] at hF
        refine And.intro ?_ trivial
        refine Or.inl ?_
        refine guardI hF (fun hF => ?_)
        refine Or.inl ?_
        refine Or.inl ?_
        obtain ⟨r7, hr7, hF⟩ := bindE hF
        refine Or.inl (And.intro f21_in (callV0 (callI C21 ([(rd (0 : Int) a.1 (1 : Int)), (rd (0 : Int) a.1 (1 : Int))], (0 : Int)) r7 [] true C21_holds hr7 rfl rfl ?_)))
        refine (And.intro rfl (And.intro rfl (And.intro (fun _ => rfl) (And.intro rfl (And.intro rfl (And.intro trivial (And.intro trivial ?_)))))))
        refine Or.inl ?_
        refine Or.inl ?_
        refine Or.inl ?_
        obtain ⟨z8, hz8, hF⟩ := bindE hF
        refine loopI (Int × (List Int)) (List Int) (fun x => ⟨[(1, .raw false [(.ptr 0 0)]), (3, .dat (.int .i64) (rd (0 : Int) a.1 (1 : Int))), (4, .raw false [(.ptr 1 0)]), (5, .dat (.int .i64) x.1)], [(0, .cells [(.d (.sl (.int .i64)) a.1), (.d (.sl (.int .i64)) a.2)]), (1, .cells [(.osl 2), (.osl 3)]), (2, .arr 3 (.int .i64) r7.1), (3, .arr 24 (.int .i64) x.2)], 4⟩) (fun z => [(2, ⟨[(1, .raw false [(.ptr 0 0)]), (4, .raw false [(.ptr 1 0)])], [(0, .cells [(.d (.sl (.int .i64)) a.1), (.d (.sl (.int .i64)) a.2)]), (1, .cells [(.osl 2), (.osl 3)]), (2, .arr 3 (.int .i64) r7.1), (3, .arr 24 (.int .i64) z)], 4⟩)]) (loopF (fun go x => f5_l2 a go x.1 x.2)) fuelN ((0 : Int), r7.2) z8 (And.intro hz8 (And.intro (Exists.intro [] (Exists.intro [] (Exists.intro [] (Exists.intro [] (Exists.intro [(0, some 0), (1, some 4), (2, some 2), (3, some 3)] (And.intro rfl (And.intro rfl (And.intro rfl (And.intro (And.intro rfl (And.intro rfl trivial)) (And.intro rfl (And.intro rfl (And.intro rfl (And.intro rfl trivial))))))))))))) (And.intro (fun _ _ h => loopZ h) (And.intro (fun m => curI (fun i => fun l3 z hF => ?_)) ?_))))
        · have hF : f5_l2 a (loopF (fun go x => f5_l2 a go x.1 x.2) m) i l3 = some z := hF
          unfold f5_l2 at hF
          refine Or.inl ?_
          refine Or.inl ?_
          refine condI hF (fun hF => ?_) (fun hF => ?_)
          · refine Or.inl ?_
            refine guardI hF (fun hF => ?_)
            refine Or.inl ?_
            refine Exists.intro ((IntKind.i64.wrap (i + (1 : Int))), (List.set l3 (Int.toNat (IntKind.i64.wrap ((IntKind.i64.wrap (i * (rd (0 : Int) a.1 (1 : Int)))) + i))) (4294967296 : Int))) (And.intro hF (Exists.intro [] (Exists.intro [] (Exists.intro [] (Exists.intro [] (Exists.intro [(0, some 0), (1, some 1), (2, some 2), (3, some 3)] (And.intro rfl (And.intro rfl (And.intro rfl (And.intro (And.intro rfl (And.intro rfl trivial)) (And.intro rfl (And.intro rfl (And.intro rfl (And.intro rfl trivial))))))))))))))
          · have hz := someE hF
            subst hz
            refine Exists.intro [] (Exists.intro [] (Exists.intro [] (Exists.intro [] (Exists.intro [(0, some 0), (1, some 1), (2, some 2), (3, some 3)] (And.intro rfl (And.intro (And.intro rfl (And.intro rfl trivial)) (And.intro rfl (And.intro rfl (And.intro rfl (And.intro rfl trivial))))))))))
        · refine And.intro ?_ trivial
          refine Or.inl ?_
          obtain ⟨r9, hr9, hF⟩ := bindE hF
          refine Or.inl (And.intro f17_in (callV0 (callI C17 ((a.1, a.2), (r7.1, z8)) r9 [] true C17_holds hr9 rfl rfl ?_)))
          refine (And.intro rfl (And.intro rfl (And.intro rfl (And.intro rfl (And.intro (fun _ => rfl) (And.intro rfl (And.intro rfl (And.intro trivial (And.intro trivial ?_)))))))))
          refine Or.inl ?_
          refine Or.inl ?_
          refine condI hF (fun hF => ?_) (fun hF => ?_)
          · refine gdYT ?_
            refine gdYT ?_
            obtain ⟨r10, hr10, hF⟩ := bindE hF
            refine Or.inl (And.intro f19_in (callV0 (callI C19 ((r9.2.1, r9.2.2), (a.1, a.2)) r10 [] true C19_holds hr10 rfl rfl ?_)))
            refine (And.intro rfl (And.intro rfl (And.intro rfl (And.intro rfl (And.intro (fun _ => rfl) (And.intro rfl (And.intro rfl (And.intro trivial (And.intro trivial ?_)))))))))
            refine condT ?_
            have hy := someE hF
            subst hy
            refine And.intro rfl (Exists.intro [] (Exists.intro [] (Exists.intro [] (Exists.intro [] (Exists.intro [] (And.intro rfl (And.intro rfl (And.intro trivial trivial))))))))
          · refine gdNT ?_
            refine gdNT ?_
            refine condF ?_
            have hy := someE hF
            subst hy
            refine And.intro rfl (Exists.intro [] (Exists.intro [] (Exists.intro [] (Exists.intro [] (Exists.intro [] (And.intro rfl (And.intro rfl (And.intro trivial trivial))))))))
      · dsimp only [sumF] at hF
        refine And.intro ?_ trivial
        have hy := someE hF
        subst hy
        refine And.intro rfl (Exists.intro [] (Exists.intro [] (Exists.intro [] (Exists.intro [] (Exists.intro [] (And.intro rfl (And.intro rfl (And.intro trivial trivial))))))))
theorem C5_holds : C5.Holds Try.prog 5 := holds_of_vc tab_ok mixed (fn := Try.f5) (by kernel_rfl) rfl C5 (fun x y hF => C5_vc x y hF)
theorem f5_in : ∃ fn, Try.prog.funcs[5]? = some fn ∧ fn.body.isSome = true ∧ (fn.name == "runtime.NumGoroutine") = false := ⟨Try.f5, by kernel_rfl, by kernel_rfl, by kernel_rfl⟩
end Go.Proofs
