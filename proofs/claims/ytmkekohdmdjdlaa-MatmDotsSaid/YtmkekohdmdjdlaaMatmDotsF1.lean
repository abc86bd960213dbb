import Derived.Test.YtmkekohdmdjdlaaMatmDotsF0
set_option linter.unusedVariables false
set_option maxRecDepth 100000
set_option maxHeartbeats 8000000
namespace Go.Proofs
open Go.AM
-- carousel/wide.Fix
def f53_j3 (a : Int × Int) : Option Bool :=
  bif (decide (a.1 > (0 : Int))) then
    some true
  else
    bif (a.1 == (0 : Int)) then
      some (decide (a.2 ≥ (9223372036854775808 : Int)))
    else
      some false
def f53_j2 (a : Int × Int) : Option (Sum Unit Int) :=
  bindF (f53_j3 a) fun z3 =>
  bif z3 then
    some (Sum.inr (9223372036854775807 : Int))
  else
    bif (decide (a.1 < (-1 : Int))) then
      some (Sum.inr (-9223372036854775808 : Int))
    else
      bif (a.1 == (-1 : Int)) then
        bif (decide (a.2 < (9223372036854775808 : Int))) then
          some (Sum.inr (-9223372036854775808 : Int))
        else
          some (Sum.inl ())
      else
        some (Sum.inl ())
def f53 (a : Int × Int) : Option Int :=
  bindF (f53_j2 a) fun z2 =>
  sumF z2 (fun z2a =>
    some (IntKind.i64.wrap a.2)) (fun z2b =>
    some z2b)
def C53 : Con where
  X := Int × Int
  Y := Int
  e := 0
  args x := [.dat (.p (.int .i64) (.int .u64)) x]
  hin x := []
  F x := f53 x
  ret y := [.dat (.int .i64) y]
  hout y := []
  nout := 0
theorem C53_vc (a : Int × Int) (y : Int) (hF : f53 a = some y) : vc Try.prog tab Try.f53.ntmps 0 (match Try.f53.body with | some c => c | none => .skip) (retK tab C53 Try.f53.results.toList y) (C53.shIn a).st := by
  unfold f53 at hF
  refine Or.inl ?_
  obtain ⟨z2, hz2, hF⟩ := bindE hF
  refine Or.inr ⟨Sum.elim (fun z2a => [(0, ⟨[(1, .raw false [(.ptr 0 0)])], [(0, .cells [(.d (.int .i64) a.1), (.d (.int .u64) a.2)])], 1⟩)]) (fun z2b => [(1, ⟨[(2, .dat (.int .i64) z2b)], [], 0⟩)]) z2, ?_, ?_⟩
  · have hF := hz2
    clear hz2
    unfold f53_j2 at hF
    obtain ⟨z3, hz3, hF⟩ := bindE hF
    refine Or.inr ⟨[(0, ⟨[(1, .raw false [(.ptr 0 0)]), (3, .dat .bool z3)], [(0, .cells [(.d (.int .i64) a.1), (.d (.int .u64) a.2)])], 1⟩)], ?_, ?_⟩
    · have hF := hz3
      clear hz3
      unfold f53_j3 at hF
      refine condN hF (fun hF => ?_) (fun hF => ?_)
      · refine gdYF ?_
        refine gdYF ?_
        refine gdYF ?_
        refine condI hF (fun hF => ?_) (fun hF => ?_)
        · refine gdYT ?_
          refine gdYT ?_
          refine gdYF ?_
          refine condT ?_
          refine condF ?_
          have hz := someE hF
          subst hz
          refine Exists.intro [] (Exists.intro [] (Exists.intro [] (Exists.intro [] (Exists.intro [(0, some 0)] (And.intro rfl (And.intro rfl (And.intro (And.intro rfl trivial) (And.intro rfl trivial))))))))
        · refine gdNT ?_
          refine gdNT ?_
          refine gdYF ?_
          refine condF ?_
          refine condF ?_
          have hz := someE hF
          subst hz
          refine Exists.intro [] (Exists.intro [] (Exists.intro [] (Exists.intro [] (Exists.intro [(0, some 0)] (And.intro rfl (And.intro rfl (And.intro (And.intro rfl trivial) (And.intro rfl trivial))))))))
      · refine gdNF ?_
        refine gdNF ?_
        refine gdNF ?_
        refine gdNF ?_
        refine condT ?_
        have hz := someE hF
        subst hz
        refine Exists.intro [] (Exists.intro [] (Exists.intro [] (Exists.intro [] (Exists.intro [(0, some 0)] (And.intro rfl (And.intro rfl (And.intro (And.intro rfl trivial) (And.intro rfl trivial))))))))
    · refine And.intro ?_ trivial
      refine condI hF (fun hF => ?_) (fun hF => ?_)
      · refine Or.inl ?_
        have hz := someE hF
        subst hz
        refine Exists.intro [] (Exists.intro [] (Exists.intro [] (Exists.intro [] (Exists.intro [] (And.intro rfl (And.intro rfl (And.intro trivial trivial)))))))
      · refine Or.inl ?_
        refine condN hF (fun hF => ?_) (fun hF => ?_)
        · refine gdYF ?_
          refine gdYF ?_
          refine gdYF ?_
          refine condI hF (fun hF => ?_) (fun hF => ?_)
          · refine gdYT ?_
            refine gdYT ?_
            refine gdYF ?_
            refine condT ?_
            refine condF ?_
            refine condI hF (fun hF => ?_) (fun hF => ?_)
            · refine Or.inl ?_
              have hz := someE hF
              subst hz
              refine Exists.intro [] (Exists.intro [] (Exists.intro [] (Exists.intro [] (Exists.intro [] (And.intro rfl (And.intro rfl (And.intro trivial trivial)))))))
            · have hz := someE hF
              subst hz
              refine Exists.intro [] (Exists.intro [] (Exists.intro [] (Exists.intro [] (Exists.intro [(0, some 0)] (And.intro rfl (And.intro (And.intro rfl trivial) (And.intro rfl trivial)))))))
          · refine gdNT ?_
            refine gdNT ?_
            refine gdYF ?_
            refine condF ?_
            refine condF ?_
            refine condF ?_
            have hz := someE hF
            subst hz
            refine Exists.intro [] (Exists.intro [] (Exists.intro [] (Exists.intro [] (Exists.intro [(0, some 0)] (And.intro rfl (And.intro (And.intro rfl trivial) (And.intro rfl trivial)))))))
        · refine gdNF ?_
          refine gdNF ?_
          refine gdNF ?_
          refine gdNF ?_
          refine condT ?_
          refine condT ?_
          refine Or.inl ?_
          have hz := someE hF
          subst hz
          refine Exists.intro [] (Exists.intro [] (Exists.intro [] (Exists.intro [] (Exists.intro [] (And.intro rfl (And.intro rfl (And.intro trivial trivial)))))))
  · rcases z2 with z2a | z2b
    · dsimp only [sumF] at hF
      refine And.intro ?_ trivial
      refine Or.inl ?_
      have hy := someE hF
      subst hy
      refine And.intro rfl (Exists.intro [] (Exists.intro [] (Exists.intro [] (Exists.intro [] (Exists.intro [] (And.intro rfl (And.intro rfl (And.intro trivial trivial))))))))
    · dsimp only [sumF] at hF
      refine And.intro ?_ trivial
      have hy := someE hF
      subst hy
      refine And.intro rfl (Exists.intro [] (Exists.intro [] (Exists.intro [] (Exists.intro [] (Exists.intro [] (And.intro rfl (And.intro rfl (And.intro trivial trivial))))))))
theorem C53_holds : C53.Holds Try.prog 53 := holds_of_vc tab_ok mixed (fn := Try.f53) (by kernel_rfl) rfl C53 (fun x y hF => C53_vc x y hF)
theorem f53_in : ∃ fn, Try.prog.funcs[53]? = some fn ∧ fn.body.isSome = true ∧ (fn.name == "runtime.NumGoroutine") = false := ⟨Try.f53, by kernel_rfl, by kernel_rfl, by kernel_rfl⟩
end Go.Proofs
namespace Go.Proofs
open Go.AM
-- (*carousel/wide.Acc).Fix
def f37 (s_top : Int) (s_low_Hi : Int) (s_low_Lo : Int) (n : Int) : Option (Int × Int × Int × Int) :=
  bif (s_top == (Int.fdiv s_low_Hi (2 ^ min (Int.toNat (63 : Int)) (IntKind.bits IntKind.i64)))) then
    bindF (f68 (s_low_Hi, s_low_Lo) n) fun q1_11 =>
    bindF (f53 (q1_11.1, q1_11.2)) fun r1 =>
    some (r1, s_top, s_low_Hi, s_low_Lo)
  else
    bif (decide (s_top < (0 : Int))) then
      some ((-9223372036854775808 : Int), s_top, s_low_Hi, s_low_Lo)
    else
      some ((9223372036854775807 : Int), s_top, s_low_Hi, s_low_Lo)
def C37 : Con where
  X := Int × Int × Int × Int
  Y := Int × Int × Int × Int
  e := 1
  args x := [.raw false [(.ptr 0 0)], .dat (.int .i64) x.2.2.2]
  hin x := [(0, .cells [(.d (.int .i64) x.1), (.d (.int .i64) x.2.1), (.d (.int .u64) x.2.2.1)])]
  F x := f37 x.1 x.2.1 x.2.2.1 x.2.2.2
  ret y := [.dat (.int .i64) y.1]
  hout y := [(0, .cells [(.d (.int .i64) y.2.1), (.d (.int .i64) y.2.2.1), (.d (.int .u64) y.2.2.2)])]
  nout := 1
theorem C37_vc (s_top : Int) (s_low_Hi : Int) (s_low_Lo : Int) (n : Int) (y : Int × Int × Int × Int) (hF : f37 s_top s_low_Hi s_low_Lo n = some y) : vc Try.prog tab Try.f37.ntmps 1 (match Try.f37.body with | some c => c | none => .skip) (retK tab C37 Try.f37.results.toList y) (C37.shIn (s_top, s_low_Hi, s_low_Lo, n)).st := by
  unfold f37 at hF
  refine Or.inl ?_
  refine Or.inl ?_
  refine Or.inl ?_
  refine Exists.intro (.take 0 (.take 1 (.take 2 (.take 3 (.take 4 (.take 5 (.take 6 (.take 7 (.take 8 (.take 9 (.take 10 (.take 11 .done)))))))))))) (Exists.intro [] (Exists.intro [] (And.intro rfl ?_)))
  refine And.intro (by decide) ?_
  refine condI hF (fun hF => ?_) (fun hF => ?_)
  · refine Or.inl ?_
    obtain ⟨q1_11, hq1_11, hF⟩ := bindE hF
    refine Or.inl (And.intro f68_in (callV0 (callI C68 ((s_low_Hi, s_low_Lo), n) q1_11 [] false C68_holds hq1_11 rfl rfl ?_)))
    refine (And.intro rfl (And.intro rfl (And.intro rfl (And.intro (fun h => nomatch h) (And.intro rfl (And.intro rfl (And.intro trivial (And.intro trivial ?_))))))))
    obtain ⟨r1, hr1, hF⟩ := bindE hF
    refine Or.inl (And.intro f53_in (callV0 (callI C53 (q1_11.1, q1_11.2) r1 [] false C53_holds hr1 rfl rfl ?_)))
    refine (And.intro rfl (And.intro rfl (And.intro (fun h => nomatch h) (And.intro rfl (And.intro rfl (And.intro trivial (And.intro trivial ?_)))))))
    have hy := someE hF
    subst hy
    refine And.intro rfl (Exists.intro [] (Exists.intro [] (Exists.intro [] (Exists.intro [] (Exists.intro [(0, some 0)] (And.intro rfl (And.intro rfl (And.intro trivial (And.intro rfl trivial)))))))))
  · refine Or.inl ?_
    refine condI hF (fun hF => ?_) (fun hF => ?_)
    · refine Or.inl ?_
      have hy := someE hF
      subst hy
      refine And.intro rfl (Exists.intro [] (Exists.intro [] (Exists.intro [] (Exists.intro [] (Exists.intro [(0, some 0)] (And.intro rfl (And.intro rfl (And.intro trivial (And.intro rfl trivial)))))))))
    · refine Or.inl ?_
      have hy := someE hF
      subst hy
      refine And.intro rfl (Exists.intro [] (Exists.intro [] (Exists.intro [] (Exists.intro [] (Exists.intro [(0, some 0)] (And.intro rfl (And.intro rfl (And.intro trivial (And.intro rfl trivial)))))))))
theorem C37_holds : C37.Holds Try.prog 37 := holds_of_vc tab_ok mixed (fn := Try.f37) (by kernel_rfl) rfl C37 (fun x y hF => C37_vc x.1 x.2.1 x.2.2.1 x.2.2.2 y hF)
theorem f37_in : ∃ fn, Try.prog.funcs[37]? = some fn ∧ fn.body.isSome = true ∧ (fn.name == "runtime.NumGoroutine") = false := ⟨Try.f37, by kernel_rfl, by kernel_rfl, by kernel_rfl⟩
end Go.Proofs
namespace Go.Proofs
open Go.AM
-- carousel/matm.Dot
def f14_l1 (a : List Int) (b : List Int) (go : (Int × Int × Int × Int) → Option (Int × Int × Int)) (v12 : Int) (c0_0 : Int) (c0_1 : Int) (c0_2 : Int) : Option (Int × Int × Int) :=
  bif (decide (v12 < (if (List.length b : Int) < (List.length a : Int) then (List.length b : Int) else (List.length a : Int)))) then
    guardF (0 ≤ v12 ∧ v12 < (List.length a : Int)) <|
    guardF (0 ≤ v12 ∧ v12 < (List.length b : Int)) <|
    bindF (f36 c0_0 c0_1 c0_2 (rd (0 : Int) a v12) (rd (0 : Int) b v12)) fun q5_8 =>
    go ((IntKind.i64.wrap (v12 + (1 : Int))), q5_8.1, q5_8.2.1, q5_8.2.2)
  else
    some (c0_0, c0_1, c0_2)
def f14 (a : List Int) (b : List Int) : Option Int :=
  bindF (loopF (fun go x => f14_l1 a b go x.1 x.2.1 x.2.2.1 x.2.2.2) fuelN ((0 : Int), (0 : Int), (0 : Int), (0 : Int))) fun z1 =>
  bindF (f37 z1.1 z1.2.1 z1.2.2 (32 : Int)) fun r2 =>
  some r2.1
def C14 : Con where
  X := (List Int) × (List Int)
  Y := Int
  e := 0
  args x := [.dat (.sl (.int .i64)) x.1, .dat (.sl (.int .i64)) x.2]
  hin x := []
  F x := f14 x.1 x.2
  ret y := [.dat (.int .i64) y]
  hout y := []
  nout := 0
theorem C14_vc (a : List Int) (b : List Int) (y : Int) (hF : f14 a b = some y) : vc Try.prog tab Try.f14.ntmps 0 (match Try.f14.body with | some c => c | none => .skip) (retK tab C14 Try.f14.results.toList y) (C14.shIn (a, b)).st := by
  unfold f14 at hF
  refine Or.inl ?_
  refine Or.inl ?_
  refine Or.inl ?_
  refine Or.inl ?_
  obtain ⟨z1, hz1, hF⟩ := bindE hF
  refine loopI (Int × Int × Int × Int) (Int × Int × Int) (fun x => ⟨[(0, .dat (.sl (.int .i64)) a), (1, .dat (.sl (.int .i64)) b), (5, .raw false [(.ptr 0 0)]), (11, .dat (.int .i64) (if (List.length b : Int) < (List.length a : Int) then (List.length b : Int) else (List.length a : Int))), (12, .dat (.int .i64) x.1)], [(0, .cells [(.d (.int .i64) x.2.1), (.d (.int .i64) x.2.2.1), (.d (.int .u64) x.2.2.2)])], 1⟩) (fun z => [(2, ⟨[(5, .raw false [(.ptr 0 0)])], [(0, .cells [(.d (.int .i64) z.1), (.d (.int .i64) z.2.1), (.d (.int .u64) z.2.2)])], 1⟩)]) (loopF (fun go x => f14_l1 a b go x.1 x.2.1 x.2.2.1 x.2.2.2)) fuelN ((0 : Int), (0 : Int), (0 : Int), (0 : Int)) z1 (And.intro hz1 (And.intro (Exists.intro [] (Exists.intro [] (Exists.intro [] (Exists.intro [] (Exists.intro [(0, some 0)] (And.intro rfl (And.intro rfl (And.intro rfl (And.intro rfl (And.intro rfl (And.intro (And.intro rfl trivial) (And.intro rfl trivial)))))))))))) (And.intro (fun _ _ h => loopZ h) (And.intro (fun m => curI (fun v12 => curI (fun c0_0 => curI (fun c0_1 => fun c0_2 z hF => ?_)))) ?_))))
  · have hF : f14_l1 a b (loopF (fun go x => f14_l1 a b go x.1 x.2.1 x.2.2.1 x.2.2.2) m) v12 c0_0 c0_1 c0_2 = some z := hF
    unfold f14_l1 at hF
    refine Or.inl ?_
    refine Or.inl ?_
    refine condI hF (fun hF => ?_) (fun hF => ?_)
    · refine Or.inl ?_
      refine Or.inl ?_
      refine Exists.intro (.take 0 (.take 1 (.take 2 (.take 3 (.take 4 (.take 5 (.take 6 (.take 7 (.alt 8 .done .done))))))))) (Exists.intro [] (Exists.intro [] (And.intro rfl ?_)))
      refine guardI hF (fun hF => ?_)
      refine guardI hF (fun hF => ?_)
      refine And.intro trivial ?_
      obtain ⟨q5_8, hq5_8, hF⟩ := bindE hF
      refine Or.inl (And.intro f36_in (callV0 (callI C36 (c0_0, c0_1, c0_2, (rd (0 : Int) a v12), (rd (0 : Int) b v12)) q5_8 [(0, some 0)] false C36_holds hq5_8 rfl rfl ?_)))
      refine (And.intro rfl (And.intro rfl (And.intro (fun h => nomatch h) (And.intro rfl (And.intro rfl (And.intro (And.intro rfl trivial) (And.intro (And.intro rfl trivial) ?_)))))))
      refine Exists.intro ((IntKind.i64.wrap (v12 + (1 : Int))), q5_8.1, q5_8.2.1, q5_8.2.2) (And.intro hF (Exists.intro [] (Exists.intro [] (Exists.intro [] (Exists.intro [] (Exists.intro [(0, some 0)] (And.intro rfl (And.intro rfl (And.intro rfl (And.intro rfl (And.intro rfl (And.intro (And.intro rfl trivial) (And.intro rfl trivial)))))))))))))
    · have hz := someE hF
      subst hz
      refine Exists.intro [] (Exists.intro [] (Exists.intro [] (Exists.intro [] (Exists.intro [(0, some 0)] (And.intro rfl (And.intro (And.intro rfl trivial) (And.intro rfl trivial)))))))
  · refine And.intro ?_ trivial
    refine Or.inl ?_
    obtain ⟨r2, hr2, hF⟩ := bindE hF
    refine Or.inl (And.intro f37_in (callV0 (callI C37 (z1.1, z1.2.1, z1.2.2, (32 : Int)) r2 [(0, some 0)] false C37_holds hr2 rfl rfl ?_)))
    refine (And.intro rfl (And.intro (fun h => nomatch h) (And.intro rfl (And.intro rfl (And.intro (And.intro rfl trivial) (And.intro (And.intro rfl trivial) ?_))))))
    have hy := someE hF
    subst hy
    refine And.intro rfl (Exists.intro [] (Exists.intro [] (Exists.intro [] (Exists.intro [] (Exists.intro [] (And.intro rfl (And.intro rfl (And.intro trivial trivial))))))))
theorem C14_holds : C14.Holds Try.prog 14 := holds_of_vc tab_ok mixed (fn := Try.f14) (by kernel_rfl) rfl C14 (fun x y hF => C14_vc x.1 x.2 y hF)
theorem f14_in : ∃ fn, Try.prog.funcs[14]? = some fn ∧ fn.body.isSome = true ∧ (fn.name == "runtime.NumGoroutine") = false := ⟨Try.f14, by kernel_rfl, by kernel_rfl, by kernel_rfl⟩
end Go.Proofs
namespace Go.Proofs
open Go.AM
-- carousel/matm.Mul
def f17_j4 (a : (List Int) × (List Int)) (b : (List Int) × (List Int)) : Option Bool :=
  bindF (f42 (a.1, a.2)) fun r9 =>
  bif (!r9) then
    some true
  else
    bindF (f42 (b.1, b.2)) fun r10 =>
    some (!r10)
def f17_j5 (a : (List Int) × (List Int)) (b : (List Int) × (List Int)) : Option Bool :=
  bindF (f43 (a.1, a.2)) fun q3_1 =>
  bif (!q3_1) then
    some true
  else
    bindF (f43 (b.1, b.2)) fun q3_5 =>
    bif (!q3_5) then
      some true
    else
      guardF (0 ≤ (1 : Int) ∧ (1 : Int) < (List.length a.1 : Int)) <|
      guardF (0 ≤ (0 : Int) ∧ (0 : Int) < (List.length b.1 : Int)) <|
      some ((rd (0 : Int) a.1 (1 : Int)) != (rd (0 : Int) b.1 (0 : Int)))
def f17_j3 (a : (List Int) × (List Int)) (b : (List Int) × (List Int)) : Option (Sum Unit Int) :=
  bindF (f17_j4 a b) fun z8 =>
  bif z8 then
    some (Sum.inr (1 : Int))
  else
    bindF (f17_j5 a b) fun z11 =>
    bif z11 then
      some (Sum.inr (4 : Int))
    else
      some (Sum.inl ())
def f17_l9 (a : (List Int) × (List Int)) (b : (List Int) × (List Int)) (r12 : Int × (List Int) × (List Int)) (v74 : Int) (go : (Int × (List Int)) → Option (List Int)) (v78 : Int) (l5_2 : List Int) : Option (List Int) :=
  bif (decide (v78 < (rd (0 : Int) b.1 (1 : Int)))) then
    guardF (0 ≤ (IntKind.i64.wrap (v74 * (rd (0 : Int) a.1 (1 : Int)))) ∧ (IntKind.i64.wrap (v74 * (rd (0 : Int) a.1 (1 : Int)))) ≤ (IntKind.i64.wrap ((IntKind.i64.wrap (v74 + (1 : Int))) * (rd (0 : Int) a.1 (1 : Int)))) ∧ (IntKind.i64.wrap ((IntKind.i64.wrap (v74 + (1 : Int))) * (rd (0 : Int) a.1 (1 : Int)))) ≤ (List.length a.2 : Int)) <|
    guardF (0 ≤ (IntKind.i64.wrap (v78 * (rd (0 : Int) a.1 (1 : Int)))) ∧ (IntKind.i64.wrap (v78 * (rd (0 : Int) a.1 (1 : Int)))) ≤ (IntKind.i64.wrap ((IntKind.i64.wrap (v78 + (1 : Int))) * (rd (0 : Int) a.1 (1 : Int)))) ∧ (IntKind.i64.wrap ((IntKind.i64.wrap (v78 + (1 : Int))) * (rd (0 : Int) a.1 (1 : Int)))) ≤ (List.length r12.2.2 : Int)) <|
    bindF (f14 (List.drop (Int.toNat (IntKind.i64.wrap (v74 * (rd (0 : Int) a.1 (1 : Int))))) (List.take (Int.toNat (IntKind.i64.wrap ((IntKind.i64.wrap (v74 + (1 : Int))) * (rd (0 : Int) a.1 (1 : Int))))) a.2)) (List.drop (Int.toNat (IntKind.i64.wrap (v78 * (rd (0 : Int) a.1 (1 : Int))))) (List.take (Int.toNat (IntKind.i64.wrap ((IntKind.i64.wrap (v78 + (1 : Int))) * (rd (0 : Int) a.1 (1 : Int))))) r12.2.2))) fun q16_27 =>
    guardF (0 ≤ (IntKind.i64.wrap ((IntKind.i64.wrap (v74 * (rd (0 : Int) b.1 (1 : Int)))) + v78)) ∧ (IntKind.i64.wrap ((IntKind.i64.wrap (v74 * (rd (0 : Int) b.1 (1 : Int)))) + v78)) < (List.length l5_2 : Int)) <|
    go ((IntKind.i64.wrap (v78 + (1 : Int))), (List.set l5_2 (Int.toNat (IntKind.i64.wrap ((IntKind.i64.wrap (v74 * (rd (0 : Int) b.1 (1 : Int)))) + v78))) q16_27))
  else
    some l5_2
def f17_l8 (a : (List Int) × (List Int)) (b : (List Int) × (List Int)) (r12 : Int × (List Int) × (List Int)) (go : (Int × (List Int)) → Option (List Int)) (v74 : Int) (l5 : List Int) : Option (List Int) :=
  bif (decide (v74 < (rd (0 : Int) a.1 (0 : Int)))) then
    bindF (loopF (fun go x => f17_l9 a b r12 v74 go x.1 x.2) fuelN ((0 : Int), l5)) fun z16 =>
    go ((IntKind.i64.wrap (v74 + (1 : Int))), z16)
  else
    some l5
def f17 (a : (List Int) × (List Int)) (b : (List Int) × (List Int)) : Option (Int × (List Int) × (List Int)) :=
  bindF (f17_j3 a b) fun z6 =>
  sumF z6 (fun z6a =>
    guardF (0 ≤ (0 : Int) ∧ (0 : Int) < (List.length a.1 : Int)) <|
    guardF (0 ≤ (1 : Int) ∧ (1 : Int) < (List.length a.1 : Int)) <|
    guardF (0 ≤ (1 : Int) ∧ (1 : Int) < (List.length b.1 : Int)) <|
    bindF (f44 ([(rd (0 : Int) a.1 (0 : Int)), (rd (0 : Int) b.1 (1 : Int))]) (0 : Int)) fun q5_14 =>
    bif (q5_14.1 != (0 : Int)) then
      some ((2 : Int), [], [])
    else
      bindF (f18 (b.1, b.2)) fun r12 =>
      bindF (loopF (fun go x => f17_l8 a b r12 go x.1 x.2) fuelN ((0 : Int), q5_14.2.2)) fun z15 =>
      some ((0 : Int), q5_14.2.1, z15)) (fun z6b =>
    some (z6b, [], []))
def C17 : Con where
  X := ((List Int) × (List Int)) × ((List Int) × (List Int))
  Y := Int × (List Int) × (List Int)
  e := 0
  args x := [.dat (.p (.sl (.int .i64)) (.sl (.int .i64))) x.1, .dat (.p (.sl (.int .i64)) (.sl (.int .i64))) x.2]
  hin x := []
  F x := f17 x.1 x.2
  ret y := [.raw true [(.osl 0), (.osl 1)], .dat (.int .i64) y.1]
  hout y := [(0, .arr 3 (.int .i64) y.2.1), (1, .arr 24 (.int .i64) y.2.2)]
  nout := 2
theorem C17_vc (a : (List Int) × (List Int)) (b : (List Int) × (List Int)) (y : Int × (List Int) × (List Int)) (hF : f17 a b = some y) : vc Try.prog tab Try.f17.ntmps 0 (match Try.f17.body with | some c => c | none => .skip) (retK tab C17 Try.f17.results.toList y) (C17.shIn (a, b)).st := by
  unfold f17 at hF
  refine Or.inl ?_
  obtain ⟨z6, hz6, hF⟩ := bindE hF
  refine Or.inr ⟨Sum.elim (fun z6a => [(0, ⟨[(2, .raw false [(.ptr 0 0)]), (3, .raw false [(.ptr 1 0)]), (4, .raw false [(.ptr 2 0)])], [(0, .cells [(.d (.sl (.int .i64)) a.1), (.d (.sl (.int .i64)) a.2)]), (1, .cells [(.d (.sl (.int .i64)) b.1), (.d (.sl (.int .i64)) b.2)]), (2, .cells [(.c (.slice none 0 0)), (.c (.slice none 0 0))])], 3⟩)]) (fun z6b => [(1, ⟨[(4, .raw false [(.ptr 0 0)]), (5, .dat (.int .i64) z6b)], [(0, .cells [(.c (.slice none 0 0)), (.c (.slice none 0 0))])], 1⟩)]) z6, ?_, ?_⟩
  · have hF := hz6
    clear hz6
    unfold f17_j3 at hF
    obtain ⟨z8, hz8, hF⟩ := bindE hF
    refine Or.inr ⟨[(0, ⟨[(2, .raw false [(.ptr 0 0)]), (3, .raw false [(.ptr 1 0)]), (4, .raw false [(.ptr 2 0)]), (15, .dat .bool z8)], [(0, .cells [(.d (.sl (.int .i64)) a.1), (.d (.sl (.int .i64)) a.2)]), (1, .cells [(.d (.sl (.int .i64)) b.1), (.d (.sl (.int .i64)) b.2)]), (2, .cells [(.c (.slice none 0 0)), (.c (.slice none 0 0))])], 3⟩)], ?_, ?_⟩
    · have hF := hz8
      clear hz8
      unfold f17_j4 at hF
      obtain ⟨r9, hr9, hF⟩ := bindE hF
      refine Or.inl (And.intro f42_in (callV0 (callI C42 (a.1, a.2) r9 [] false C42_holds hr9 rfl rfl ?_)))
      refine (And.intro rfl (And.intro rfl (And.intro (fun h => nomatch h) (And.intro rfl (And.intro rfl (And.intro trivial (And.intro trivial ?_)))))))
      refine condN hF (fun hF => ?_) (fun hF => ?_)
      · refine gdYF ?_
        obtain ⟨r10, hr10, hF⟩ := bindE hF
        refine Or.inl (And.intro f42_in (callV0 (callI C42 (b.1, b.2) r10 [] false C42_holds hr10 rfl rfl ?_)))
        refine (And.intro rfl (And.intro rfl (And.intro (fun h => nomatch h) (And.intro rfl (And.intro rfl (And.intro trivial (And.intro trivial ?_)))))))
        refine gdYF ?_
        refine condF ?_
        have hz := someE hF
        subst hz
        refine Exists.intro [] (Exists.intro [] (Exists.intro [] (Exists.intro [] (Exists.intro [(0, some 0), (1, some 1), (2, some 2)] (And.intro rfl (And.intro rfl (And.intro (And.intro rfl (And.intro rfl (And.intro rfl trivial))) (And.intro rfl (And.intro rfl (And.intro rfl trivial))))))))))
      · refine gdNF ?_
        refine gdNF ?_
        refine condT ?_
        have hz := someE hF
        subst hz
        refine Exists.intro [] (Exists.intro [] (Exists.intro [] (Exists.intro [] (Exists.intro [(0, some 0), (1, some 1), (2, some 2)] (And.intro rfl (And.intro rfl (And.intro (And.intro rfl (And.intro rfl (And.intro rfl trivial))) (And.intro rfl (And.intro rfl (And.intro rfl trivial))))))))))
    · refine And.intro ?_ trivial
      refine condI hF (fun hF => ?_) (fun hF => ?_)
      · refine Or.inl ?_
        refine Or.inl ?_
        have hz := someE hF
        subst hz
        refine Exists.intro [] (Exists.intro [] (Exists.intro [] (Exists.intro [] (Exists.intro [(0, some 2)] (And.intro rfl (And.intro rfl (And.intro (And.intro rfl trivial) (And.intro rfl trivial))))))))
      · obtain ⟨z11, hz11, hF⟩ := bindE hF
        refine Or.inr ⟨[(0, ⟨[(2, .raw false [(.ptr 0 0)]), (3, .raw false [(.ptr 1 0)]), (4, .raw false [(.ptr 2 0)]), (25, .dat .bool z11)], [(0, .cells [(.d (.sl (.int .i64)) a.1), (.d (.sl (.int .i64)) a.2)]), (1, .cells [(.d (.sl (.int .i64)) b.1), (.d (.sl (.int .i64)) b.2)]), (2, .cells [(.c (.slice none 0 0)), (.c (.slice none 0 0))])], 3⟩)], ?_, ?_⟩
        · have hF := hz11
          clear hz11
          unfold f17_j5 at hF
          refine Exists.intro (.take 0 (.alt 1 (.take 2 (.take 3 (.take 4 (.alt 5 (.take 6 (.take 7 (.take 8 (.take 9 (.take 10 (.take 11 (.take 12 (.take 13 (.take 14 (.take 15 (.take 16 (.take 17 (.take 18 (.take 19 .done)))))))))))))) .done)))) .done)) (Exists.intro [] (Exists.intro [] (And.intro rfl ?_)))
          refine And.intro trivial ?_
          obtain ⟨q3_1, hq3_1, hF⟩ := bindE hF
          refine Or.inl (And.intro f43_in (callV0 (callI C43 (a.1, a.2) q3_1 [] false C43_holds hq3_1 rfl rfl ?_)))
          refine (And.intro rfl (And.intro rfl (And.intro (fun h => nomatch h) (And.intro rfl (And.intro rfl (And.intro trivial (And.intro trivial ?_)))))))
          refine condN hF (fun hF => ?_) (fun hF => ?_)
          · refine And.intro trivial ?_
            refine gdYF ?_
            obtain ⟨q3_5, hq3_5, hF⟩ := bindE hF
            refine Or.inl (And.intro f43_in (callV0 (callI C43 (b.1, b.2) q3_5 [] false C43_holds hq3_5 rfl rfl ?_)))
            refine (And.intro rfl (And.intro rfl (And.intro (fun h => nomatch h) (And.intro rfl (And.intro rfl (And.intro trivial (And.intro trivial ?_)))))))
            refine gdYF ?_
            refine condF ?_
            refine condN hF (fun hF => ?_) (fun hF => ?_)
            · refine gdYF ?_
              refine gdYF ?_
              refine guardI hF (fun hF => ?_)
              refine gdYF ?_
              refine gdYF ?_
              refine gdYF ?_
              refine gdYF ?_
              refine guardI hF (fun hF => ?_)
              refine gdYF ?_
              refine gdYF ?_
              refine condF ?_
              have hz := someE hF
              subst hz
              refine Exists.intro [] (Exists.intro [] (Exists.intro [] (Exists.intro [] (Exists.intro [(0, some 0), (1, some 1), (2, some 2)] (And.intro rfl (And.intro rfl (And.intro (And.intro rfl (And.intro rfl (And.intro rfl trivial))) (And.intro rfl (And.intro rfl (And.intro rfl trivial))))))))))
            · refine gdNF ?_
              refine gdNF ?_
              refine gdNF ?_
              refine gdNF ?_
              refine gdNF ?_
              refine gdNF ?_
              refine gdNF ?_
              refine gdNF ?_
              refine condT ?_
              have hz := someE hF
              subst hz
              refine Exists.intro [] (Exists.intro [] (Exists.intro [] (Exists.intro [] (Exists.intro [(0, some 0), (1, some 1), (2, some 2)] (And.intro rfl (And.intro rfl (And.intro (And.intro rfl (And.intro rfl (And.intro rfl trivial))) (And.intro rfl (And.intro rfl (And.intro rfl trivial))))))))))
          · refine And.intro trivial ?_
            refine gdNF ?_
            refine gdNF ?_
            refine condT ?_
            refine gdNF ?_
            refine gdNF ?_
            refine gdNF ?_
            refine gdNF ?_
            refine gdNF ?_
            refine gdNF ?_
            refine gdNF ?_
            refine gdNF ?_
            refine gdNF ?_
            refine condT ?_
            have hz := someE hF
            subst hz
            refine Exists.intro [] (Exists.intro [] (Exists.intro [] (Exists.intro [] (Exists.intro [(0, some 0), (1, some 1), (2, some 2)] (And.intro rfl (And.intro rfl (And.intro (And.intro rfl (And.intro rfl (And.intro rfl trivial))) (And.intro rfl (And.intro rfl (And.intro rfl trivial))))))))))
        · refine And.intro ?_ trivial
          refine condI hF (fun hF => ?_) (fun hF => ?_)
          · refine Or.inl ?_
            refine Or.inl ?_
            have hz := someE hF
            subst hz
            refine Exists.intro [] (Exists.intro [] (Exists.intro [] (Exists.intro [] (Exists.intro [(0, some 2)] (And.intro rfl (And.intro rfl (And.intro (And.intro rfl trivial) (And.intro rfl trivial))))))))
          · have hz := someE hF
            subst hz
            refine Exists.intro [] (Exists.intro [] (Exists.intro [] (Exists.intro [] (Exists.intro [(0, some 0), (1, some 1), (2, some 2)] (And.intro rfl (And.intro (And.intro rfl (And.intro rfl (And.intro rfl trivial))) (And.intro rfl (And.intro rfl (And.intro rfl trivial)))))))))
  · rcases z6 with z6a | z6b
    · dsimp only [sumF] at hF
      refine And.intro ?_ trivial
      refine Or.inl ?_
      refine Exists.intro (.take 0 (.take 1 (.take 2 (.take 3 (.take 4 (.take 5 (.take 6 (.take 7 (.take 8 (.take 9 (.take 10 (.take 11 (.take 12 (.take 13 (.take 14 .done))))))))))))))) (Exists.intro [] (Exists.intro [] (And.intro rfl ?_)))
      refine guardI hF (fun hF => ?_)
      refine guardI hF (fun hF => ?_)
      refine guardI hF (fun hF => ?_)
      refine Or.inl ?_
      refine Or.inl ?_
      obtain ⟨q5_14, hq5_14, hF⟩ := bindE hF
      refine Or.inl (And.intro f44_in (callV0 (callI C44 ([(rd (0 : Int) a.1 (0 : Int)), (rd (0 : Int) b.1 (1 : Int))], (0 : Int)) q5_14 [] true C44_holds hq5_14 rfl rfl ?_)))
      refine (And.intro rfl (And.intro rfl (And.intro (fun _ => rfl) (And.intro rfl (And.intro rfl (And.intro trivial (And.intro trivial ?_)))))))
      refine Or.inl ?_
      refine Or.inl ?_
      refine Or.inl ?_
      refine condI hF (fun hF => ?_) (fun hF => ?_)
      · refine Or.inl ?_
        refine Or.inl ?_
        have hy := someE hF
        subst hy
        refine And.intro rfl (Exists.intro [] (Exists.intro [] (Exists.intro [] (Exists.intro [] (Exists.intro [(0, none), (1, none)] (And.intro rfl (And.intro rfl (And.intro (And.intro rfl trivial) (And.intro rfl (And.intro rfl trivial))))))))))
      · refine Or.inl ?_
        obtain ⟨r12, hr12, hF⟩ := bindE hF
        refine Or.inl (And.intro f18_in (callV0 (callI C18 (b.1, b.2) r12 [] false C18_holds hr12 rfl rfl ?_)))
        refine (And.intro rfl (And.intro rfl (And.intro (fun h => nomatch h) (And.intro rfl (And.intro rfl (And.intro trivial (And.intro trivial ?_)))))))
        refine Or.inl ?_
        refine Or.inl ?_
        refine Or.inl ?_
        obtain ⟨z15, hz15, hF⟩ := bindE hF
        refine loopI (Int × (List Int)) (List Int) (fun x => ⟨[(2, .raw false [(.ptr 0 0)]), (4, .raw false [(.ptr 1 0)]), (7, .dat (.int .i64) (rd (0 : Int) a.1 (1 : Int))), (8, .dat (.int .i64) (rd (0 : Int) b.1 (1 : Int))), (9, .raw false [(.ptr 2 0)]), (11, .raw false [(.ptr 3 0)]), (73, .dat (.int .i64) (rd (0 : Int) a.1 (0 : Int))), (74, .dat (.int .i64) x.1)], [(0, .cells [(.d (.sl (.int .i64)) a.1), (.d (.sl (.int .i64)) a.2)]), (1, .cells [(.c (.slice none 0 0)), (.c (.slice none 0 0))]), (2, .cells [(.osl 4), (.osl 5)]), (3, .cells [(.osl 6), (.d (.sl (.int .i64)) r12.2.2)]), (4, .arr 3 (.int .i64) q5_14.2.1), (5, .arr 24 (.int .i64) x.2), (6, .arr 3 (.int .i64) r12.2.1)], 7⟩) (fun z => [(3, ⟨[(4, .raw false [(.ptr 0 0)]), (9, .raw false [(.ptr 1 0)])], [(0, .cells [(.c (.slice none 0 0)), (.c (.slice none 0 0))]), (1, .cells [(.osl 2), (.osl 3)]), (2, .arr 3 (.int .i64) q5_14.2.1), (3, .arr 24 (.int .i64) z)], 4⟩)]) (loopF (fun go x => f17_l8 a b r12 go x.1 x.2)) fuelN ((0 : Int), q5_14.2.2) z15 (And.intro hz15 (And.intro (Exists.intro [] (Exists.intro [] (Exists.intro [] (Exists.intro [8] (Exists.intro [(0, some 0), (1, some 2), (2, some 6), (3, some 9), (4, some 4), (5, some 5), (6, some 7)] (And.intro rfl (And.intro rfl (And.intro rfl (And.intro rfl (And.intro rfl (And.intro (And.intro rfl (And.intro rfl (And.intro rfl (And.intro rfl trivial)))) (And.intro rfl (And.intro rfl (And.intro rfl (And.intro rfl (And.intro rfl (And.intro rfl (And.intro rfl trivial)))))))))))))))))) (And.intro (fun _ _ h => loopZ h) (And.intro (fun m => curI (fun v74 => fun l5 z hF => ?_)) ?_))))
        · have hF : f17_l8 a b r12 (loopF (fun go x => f17_l8 a b r12 go x.1 x.2) m) v74 l5 = some z := hF
          unfold f17_l8 at hF
          refine Or.inl ?_
          refine Or.inl ?_
          refine condI hF (fun hF => ?_) (fun hF => ?_)
          · refine Or.inl ?_
            refine Or.inl ?_
            refine Or.inl ?_
            obtain ⟨z16, hz16, hF⟩ := bindE hF
            refine loopI (Int × (List Int)) (List Int) (fun x => ⟨[(2, .raw false [(.ptr 0 0)]), (4, .raw false [(.ptr 1 0)]), (7, .dat (.int .i64) (rd (0 : Int) a.1 (1 : Int))), (8, .dat (.int .i64) (rd (0 : Int) b.1 (1 : Int))), (9, .raw false [(.ptr 2 0)]), (11, .raw false [(.ptr 3 0)]), (13, .dat (.int .i64) v74), (73, .dat (.int .i64) (rd (0 : Int) a.1 (0 : Int))), (74, .dat (.int .i64) v74), (77, .dat (.int .i64) (rd (0 : Int) b.1 (1 : Int))), (78, .dat (.int .i64) x.1)], [(0, .cells [(.d (.sl (.int .i64)) a.1), (.d (.sl (.int .i64)) a.2)]), (1, .cells [(.c (.slice none 0 0)), (.c (.slice none 0 0))]), (2, .cells [(.osl 4), (.osl 5)]), (3, .cells [(.osl 6), (.d (.sl (.int .i64)) r12.2.2)]), (4, .arr 3 (.int .i64) q5_14.2.1), (5, .arr 24 (.int .i64) x.2), (6, .arr 3 (.int .i64) r12.2.1)], 7⟩) (fun z => [(5, ⟨[(2, .raw false [(.ptr 0 0)]), (4, .raw false [(.ptr 1 0)]), (7, .dat (.int .i64) (rd (0 : Int) a.1 (1 : Int))), (8, .dat (.int .i64) (rd (0 : Int) b.1 (1 : Int))), (9, .raw false [(.ptr 2 0)]), (11, .raw false [(.ptr 3 0)]), (73, .dat (.int .i64) (rd (0 : Int) a.1 (0 : Int))), (74, .dat (.int .i64) v74)], [(0, .cells [(.d (.sl (.int .i64)) a.1), (.d (.sl (.int .i64)) a.2)]), (1, .cells [(.c (.slice none 0 0)), (.c (.slice none 0 0))]), (2, .cells [(.osl 4), (.osl 5)]), (3, .cells [(.osl 6), (.d (.sl (.int .i64)) r12.2.2)]), (4, .arr 3 (.int .i64) q5_14.2.1), (5, .arr 24 (.int .i64) z), (6, .arr 3 (.int .i64) r12.2.1)], 7⟩)]) (loopF (fun go x => f17_l9 a b r12 v74 go x.1 x.2)) fuelN ((0 : Int), l5) z16 (And.intro hz16 (And.intro (Exists.intro [] (Exists.intro [] (Exists.intro [] (Exists.intro [] (Exists.intro [(0, some 0), (1, some 1), (2, some 2), (3, some 3), (4, some 4), (5, some 5), (6, some 6)] (And.intro rfl (And.intro rfl (And.intro rfl (And.intro rfl (And.intro rfl (And.intro rfl (And.intro rfl (And.intro rfl (And.intro (And.intro rfl (And.intro rfl (And.intro rfl (And.intro rfl trivial)))) (And.intro rfl (And.intro rfl (And.intro rfl (And.intro rfl (And.intro rfl (And.intro rfl (And.intro rfl trivial))))))))))))))))))))) (And.intro (fun _ _ h => loopZ h) (And.intro (fun m => curI (fun v78 => fun l5_2 z hF => ?_)) ?_))))
            · have hF : f17_l9 a b r12 v74 (loopF (fun go x => f17_l9 a b r12 v74 go x.1 x.2) m) v78 l5_2 = some z := hF
              unfold f17_l9 at hF
              refine Or.inl ?_
              refine Or.inl ?_
              refine condI hF (fun hF => ?_) (fun hF => ?_)
              · refine Or.inl ?_
                refine Or.inl ?_
                refine Exists.intro (.take 0 (.take 1 (.take 2 (.take 3 (.take 4 (.take 5 (.take 6 (.take 7 (.take 8 (.take 9 (.take 10 (.take 11 (.take 12 (.take 13 (.take 14 (.take 15 (.take 16 (.take 17 (.take 18 (.take 19 (.take 20 (.take 21 (.take 22 (.take 23 (.take 24 (.take 25 (.alt 26 (.alt 27 (.take 28 (.alt 29 .done .done)) .done) .done))))))))))))))))))))))))))) (Exists.intro [] (Exists.intro [] (And.intro rfl ?_)))
                refine guardI hF (fun hF => ?_)
                refine And.intro trivial ?_
                refine guardI hF (fun hF => ?_)
                refine And.intro trivial ?_
                obtain ⟨q16_27, hq16_27, hF⟩ := bindE hF
                refine Or.inl (And.intro f14_in (callV0 (callI C14 ((List.drop (Int.toNat (IntKind.i64.wrap (v74 * (rd (0 : Int) a.1 (1 : Int))))) (List.take (Int.toNat (IntKind.i64.wrap ((IntKind.i64.wrap (v74 + (1 : Int))) * (rd (0 : Int) a.1 (1 : Int))))) a.2)), (List.drop (Int.toNat (IntKind.i64.wrap (v78 * (rd (0 : Int) a.1 (1 : Int))))) (List.take (Int.toNat (IntKind.i64.wrap ((IntKind.i64.wrap (v78 + (1 : Int))) * (rd (0 : Int) a.1 (1 : Int))))) r12.2.2))) q16_27 [] false C14_holds hq16_27 rfl rfl ?_)))
                refine (And.intro rfl (And.intro rfl (And.intro (fun h => nomatch h) (And.intro rfl (And.intro rfl (And.intro trivial (And.intro trivial ?_)))))))
                refine guardI hF (fun hF => ?_)
                refine And.intro trivial ?_
                refine Or.inl ?_
                refine Exists.intro ((IntKind.i64.wrap (v78 + (1 : Int))), (List.set l5_2 (Int.toNat (IntKind.i64.wrap ((IntKind.i64.wrap (v74 * (rd (0 : Int) b.1 (1 : Int)))) + v78))) q16_27)) (And.intro hF (Exists.intro [] (Exists.intro [] (Exists.intro [] (Exists.intro [] (Exists.intro [(0, some 0), (1, some 1), (2, some 2), (3, some 3), (4, some 4), (5, some 5), (6, some 6)] (And.intro rfl (And.intro rfl (And.intro rfl (And.intro rfl (And.intro rfl (And.intro rfl (And.intro rfl (And.intro rfl (And.intro (And.intro rfl (And.intro rfl (And.intro rfl (And.intro rfl trivial)))) (And.intro rfl (And.intro rfl (And.intro rfl (And.intro rfl (And.intro rfl (And.intro rfl (And.intro rfl trivial))))))))))))))))))))))
              · have hz := someE hF
                subst hz
                refine Exists.intro [] (Exists.intro [] (Exists.intro [] (Exists.intro [] (Exists.intro [(0, some 0), (1, some 1), (2, some 2), (3, some 3), (4, some 4), (5, some 5), (6, some 6)] (And.intro rfl (And.intro rfl (And.intro rfl (And.intro rfl (And.intro rfl (And.intro (And.intro rfl (And.intro rfl (And.intro rfl (And.intro rfl trivial)))) (And.intro rfl (And.intro rfl (And.intro rfl (And.intro rfl (And.intro rfl (And.intro rfl (And.intro rfl trivial)))))))))))))))))
            · refine And.intro ?_ trivial
              refine Exists.intro ((IntKind.i64.wrap (v74 + (1 : Int))), z16) (And.intro hF (Exists.intro [] (Exists.intro [] (Exists.intro [] (Exists.intro [] (Exists.intro [(0, some 0), (1, some 1), (2, some 2), (3, some 3), (4, some 4), (5, some 5), (6, some 6)] (And.intro rfl (And.intro rfl (And.intro rfl (And.intro rfl (And.intro rfl (And.intro (And.intro rfl (And.intro rfl (And.intro rfl (And.intro rfl trivial)))) (And.intro rfl (And.intro rfl (And.intro rfl (And.intro rfl (And.intro rfl (And.intro rfl (And.intro rfl trivial)))))))))))))))))))
          · have hz := someE hF
            subst hz
            refine Exists.intro [] (Exists.intro [] (Exists.intro [] (Exists.intro [] (Exists.intro [(0, some 1), (1, some 2), (2, some 4), (3, some 5)] (And.intro rfl (And.intro (And.intro rfl (And.intro rfl trivial)) (And.intro rfl (And.intro rfl (And.intro rfl (And.intro rfl trivial))))))))))
        · refine And.intro ?_ trivial
          refine Or.inl ?_
          refine Or.inl ?_
          have hy := someE hF
          subst hy
          refine And.intro rfl (Exists.intro [] (Exists.intro [] (Exists.intro [] (Exists.intro [] (Exists.intro [(0, some 2), (1, some 3)] (And.intro rfl (And.intro rfl (And.intro (And.intro rfl trivial) (And.intro rfl (And.intro rfl trivial))))))))))
    · dsimp only [sumF] at hF
      refine And.intro ?_ trivial
      have hy := someE hF
      subst hy
      refine And.intro rfl (Exists.intro [] (Exists.intro [] (Exists.intro [] (Exists.intro [] (Exists.intro [(0, none), (1, none)] (And.intro rfl (And.intro rfl (And.intro (And.intro rfl trivial) (And.intro rfl (And.intro rfl trivial))))))))))
theorem C17_holds : C17.Holds Try.prog 17 := holds_of_vc tab_ok mixed (fn := Try.f17) (by kernel_rfl) rfl C17 (fun x y hF => C17_vc x.1 x.2 y hF)
theorem f17_in : ∃ fn, Try.prog.funcs[17]? = some fn ∧ fn.body.isSome = true ∧ (fn.name == "runtime.NumGoroutine") = false := ⟨Try.f17, by kernel_rfl, by kernel_rfl, by kernel_rfl⟩
end Go.Proofs
namespace Go.Proofs
open Go.AM
-- carousel/carouselref5.Same
def f46_l1 (a : List Int) (b : List Int) (go : Int → Option (Sum Unit Unit)) (i : Int) : Option (Sum Unit Unit) :=
  bif (decide (i < (List.length a : Int))) then
    guardF (0 ≤ i ∧ i < (List.length a : Int)) <|
    guardF (0 ≤ i ∧ i < (List.length b : Int)) <|
    bif ((rd (0 : Int) a i) != (rd (0 : Int) b i)) then
      some (Sum.inl ())
    else
      go (IntKind.i64.wrap (i + (1 : Int)))
  else
    some (Sum.inr ())
def f46 (a : List Int) (b : List Int) : Option Bool :=
  bif ((List.length a : Int) != (List.length b : Int)) then
    some false
  else
    bindF (loopF (fun go x => f46_l1 a b go x) fuelN (0 : Int)) fun z1 =>
    sumF z1 (fun z1a =>
      some false) (fun z1b =>
      some true)
def C46 : Con where
  X := (List Int) × (List Int)
  Y := Bool
  e := 0
  args x := [.dat (.sl (.int .i64)) x.1, .dat (.sl (.int .i64)) x.2]
  hin x := []
  F x := f46 x.1 x.2
  ret y := [.dat .bool y]
  hout y := []
  nout := 0
theorem C46_vc (a : List Int) (b : List Int) (y : Bool) (hF : f46 a b = some y) : vc Try.prog tab Try.f46.ntmps 0 (match Try.f46.body with | some c => c | none => .skip) (retK tab C46 Try.f46.results.toList y) (C46.shIn (a, b)).st := by
  unfold f46 at hF
  refine Or.inl ?_
  refine Or.inl ?_
  refine Or.inl ?_
  refine condI hF (fun hF => ?_) (fun hF => ?_)
  · refine Or.inl ?_
    have hy := someE hF
    subst hy
    refine And.intro rfl (Exists.intro [] (Exists.intro [] (Exists.intro [] (Exists.intro [] (Exists.intro [] (And.intro rfl (And.intro rfl (And.intro trivial trivial))))))))
  · refine Or.inl ?_
    refine Or.inl ?_
    obtain ⟨z1, hz1, hF⟩ := bindE hF
    refine loopI Int (Sum Unit Unit) (fun x => ⟨[(0, .dat (.sl (.int .i64)) a), (1, .dat (.sl (.int .i64)) b), (5, .dat (.int .i64) x)], [], 0⟩) (fun z => Sum.elim (fun za => [(1, ⟨[(4, .dat .bool false)], [], 0⟩)]) (fun zb => [(2, ⟨[], [], 0⟩)]) z) (loopF (fun go x => f46_l1 a b go x)) fuelN (0 : Int) z1 (And.intro hz1 (And.intro (Exists.intro [] (Exists.intro [] (Exists.intro [] (Exists.intro [] (Exists.intro [] (And.intro rfl (And.intro rfl (And.intro rfl (And.intro rfl (And.intro trivial trivial)))))))))) (And.intro (fun _ _ h => loopZ h) (And.intro (fun m => fun i z hF => ?_) ?_))))
    · have hF : f46_l1 a b (loopF (fun go x => f46_l1 a b go x) m) i = some z := hF
      unfold f46_l1 at hF
      refine Or.inl ?_
      refine Or.inl ?_
      refine condI hF (fun hF => ?_) (fun hF => ?_)
      · refine Or.inl ?_
        refine Or.inl ?_
        refine Exists.intro (.take 0 (.take 1 (.take 2 (.take 3 (.take 4 (.take 5 (.take 6 (.take 7 (.take 8 .done))))))))) (Exists.intro [] (Exists.intro [] (And.intro rfl ?_)))
        refine guardI hF (fun hF => ?_)
        refine guardI hF (fun hF => ?_)
        refine condI hF (fun hF => ?_) (fun hF => ?_)
        · refine Or.inl ?_
          have hz := someE hF
          subst hz
          refine Exists.intro [] (Exists.intro [] (Exists.intro [] (Exists.intro [] (Exists.intro [] (And.intro rfl (And.intro rfl (And.intro trivial trivial)))))))
        · refine Exists.intro (IntKind.i64.wrap (i + (1 : Int))) (And.intro hF (Exists.intro [] (Exists.intro [] (Exists.intro [] (Exists.intro [] (Exists.intro [] (And.intro rfl (And.intro rfl (And.intro rfl (And.intro rfl (And.intro trivial trivial)))))))))))
      · have hz := someE hF
        subst hz
        refine Exists.intro [] (Exists.intro [] (Exists.intro [] (Exists.intro [] (Exists.intro [] (And.intro rfl (And.intro trivial trivial))))))
    · rcases z1 with z1a | z1b
      · dsimp only [sumF] at hF
        refine And.intro ?_ trivial
        have hy := someE hF
        subst hy
        refine And.intro rfl (Exists.intro [] (Exists.intro [] (Exists.intro [] (Exists.intro [] (Exists.intro [] (And.intro rfl (And.intro rfl (And.intro trivial trivial))))))))
      · dsimp only [sumF] at hF
        refine And.intro ?_ trivial
        refine Or.inl ?_
        have hy := someE hF
        subst hy
        refine And.intro rfl (Exists.intro [] (Exists.intro [] (Exists.intro [] (Exists.intro [] (Exists.intro [] (And.intro rfl (And.intro rfl (And.intro trivial trivial))))))))
theorem C46_holds : C46.Holds Try.prog 46 := holds_of_vc tab_ok mixed (fn := Try.f46) (by kernel_rfl) rfl C46 (fun x y hF => C46_vc x.1 x.2 y hF)
theorem f46_in : ∃ fn, Try.prog.funcs[46]? = some fn ∧ fn.body.isSome = true ∧ (fn.name == "runtime.NumGoroutine") = false := ⟨Try.f46, by kernel_rfl, by kernel_rfl, by kernel_rfl⟩
end Go.Proofs
namespace Go.Proofs
open Go.AM
-- carousel/carouselref5.Alike
def f19_j1 (a : (List Int) × (List Int)) (b : (List Int) × (List Int)) : Option (Sum Unit Unit) :=
  bindF (f46 a.1 b.1) fun r2 =>
  bif (!r2) then
    some (Sum.inr ())
  else
    bif ((List.length a.2 : Int) != (List.length b.2 : Int)) then
      some (Sum.inr ())
    else
      some (Sum.inl ())
def f19_l2 (a : (List Int) × (List Int)) (b : (List Int) × (List Int)) (go : Int → Option (Sum Unit Unit)) (i : Int) : Option (Sum Unit Unit) :=
  bif (decide (i < (List.length a.2 : Int))) then
    guardF (0 ≤ i ∧ i < (List.length a.2 : Int)) <|
    guardF (0 ≤ i ∧ i < (List.length b.2 : Int)) <|
    bif ((rd (0 : Int) a.2 i) != (rd (0 : Int) b.2 i)) then
      some (Sum.inl ())
    else
      go (IntKind.i64.wrap (i + (1 : Int)))
  else
    some (Sum.inr ())
def f19 (a : (List Int) × (List Int)) (b : (List Int) × (List Int)) : Option Bool :=
  bindF (f19_j1 a b) fun z1 =>
  sumF z1 (fun z1a =>
    bindF (loopF (fun go x => f19_l2 a b go x) fuelN (0 : Int)) fun z3 =>
    sumF z3 (fun z3a =>
      some false) (fun z3b =>
      some true)) (fun z1b =>
    some false)
def C19 : Con where
  X := ((List Int) × (List Int)) × ((List Int) × (List Int))
  Y := Bool
  e := 0
  args x := [.dat (.p (.sl (.int .i64)) (.sl (.int .i64))) x.1, .dat (.p (.sl (.int .i64)) (.sl (.int .i64))) x.2]
  hin x := []
  F x := f19 x.1 x.2
  ret y := [.dat .bool y]
  hout y := []
  nout := 0
theorem C19_vc (a : (List Int) × (List Int)) (b : (List Int) × (List Int)) (y : Bool) (hF : f19 a b = some y) : vc Try.prog tab Try.f19.ntmps 0 (match Try.f19.body with | some c => c | none => .skip) (retK tab C19 Try.f19.results.toList y) (C19.shIn (a, b)).st := by
  unfold f19 at hF
  refine Or.inl ?_
  obtain ⟨z1, hz1, hF⟩ := bindE hF
  refine Or.inr ⟨Sum.elim (fun z1a => [(0, ⟨[(2, .raw false [(.ptr 0 0)]), (3, .raw false [(.ptr 1 0)])], [(0, .cells [(.d (.sl (.int .i64)) a.1), (.d (.sl (.int .i64)) a.2)]), (1, .cells [(.d (.sl (.int .i64)) b.1), (.d (.sl (.int .i64)) b.2)])], 2⟩)]) (fun z1b => [(1, ⟨[(4, .dat .bool false)], [], 0⟩)]) z1, ?_, ?_⟩
  · have hF := hz1
    clear hz1
    unfold f19_j1 at hF
    refine Or.inl ?_
    obtain ⟨r2, hr2, hF⟩ := bindE hF
    refine Or.inl (And.intro f46_in (callV0 (callI C46 (a.1, b.1) r2 [] false C46_holds hr2 rfl rfl ?_)))
    refine (And.intro rfl (And.intro rfl (And.intro (fun h => nomatch h) (And.intro rfl (And.intro rfl (And.intro trivial (And.intro trivial ?_)))))))
    refine condN hF (fun hF => ?_) (fun hF => ?_)
    · refine gdYF ?_
      refine gdYF ?_
      refine gdYF ?_
      refine gdYF ?_
      refine gdYF ?_
      refine gdYF ?_
      refine condF ?_
      refine condI hF (fun hF => ?_) (fun hF => ?_)
      · refine Or.inl ?_
        have hz := someE hF
        subst hz
        refine Exists.intro [] (Exists.intro [] (Exists.intro [] (Exists.intro [] (Exists.intro [] (And.intro rfl (And.intro rfl (And.intro trivial trivial)))))))
      · have hz := someE hF
        subst hz
        refine Exists.intro [] (Exists.intro [] (Exists.intro [] (Exists.intro [] (Exists.intro [(0, some 0), (1, some 1)] (And.intro rfl (And.intro (And.intro rfl (And.intro rfl trivial)) (And.intro rfl (And.intro rfl trivial))))))))
    · refine gdNF ?_
      refine gdNF ?_
      refine gdNF ?_
      refine gdNF ?_
      refine gdNF ?_
      refine gdNF ?_
      refine condT ?_
      refine condT ?_
      refine Or.inl ?_
      have hz := someE hF
      subst hz
      refine Exists.intro [] (Exists.intro [] (Exists.intro [] (Exists.intro [] (Exists.intro [] (And.intro rfl (And.intro rfl (And.intro trivial trivial)))))))
  · rcases z1 with z1a | z1b
    · dsimp only [sumF] at hF
      refine And.intro ?_ trivial
      refine Or.inl ?_
      refine Or.inl ?_
      obtain ⟨z3, hz3, hF⟩ := bindE hF
      refine loopI Int (Sum Unit Unit) (fun x => ⟨[(2, .raw false [(.ptr 0 0)]), (3, .raw false [(.ptr 1 0)]), (5, .dat (.int .i64) x)], [(0, .cells [(.d (.sl (.int .i64)) a.1), (.d (.sl (.int .i64)) a.2)]), (1, .cells [(.d (.sl (.int .i64)) b.1), (.d (.sl (.int .i64)) b.2)])], 2⟩) (fun z => Sum.elim (fun za => [(1, ⟨[(4, .dat .bool false)], [], 0⟩)]) (fun zb => [(2, ⟨[], [], 0⟩)]) z) (loopF (fun go x => f19_l2 a b go x)) fuelN (0 : Int) z3 (And.intro hz3 (And.intro (Exists.intro [] (Exists.intro [] (Exists.intro [] (Exists.intro [] (Exists.intro [(0, some 0), (1, some 1)] (And.intro rfl (And.intro rfl (And.intro (And.intro rfl (And.intro rfl trivial)) (And.intro rfl (And.intro rfl trivial)))))))))) (And.intro (fun _ _ h => loopZ h) (And.intro (fun m => fun i z hF => ?_) ?_))))
      · have hF : f19_l2 a b (loopF (fun go x => f19_l2 a b go x) m) i = some z := hF
        unfold f19_l2 at hF
        refine Or.inl ?_
        refine Or.inl ?_
        refine condI hF (fun hF => ?_) (fun hF => ?_)
        · refine Or.inl ?_
          refine Or.inl ?_
          refine Exists.intro (.take 0 (.take 1 (.take 2 (.take 3 (.take 4 (.take 5 (.take 6 (.take 7 (.take 8 (.take 9 (.take 10 .done))))))))))) (Exists.intro [] (Exists.intro [] (And.intro rfl ?_)))
          refine guardI hF (fun hF => ?_)
          refine guardI hF (fun hF => ?_)
          refine condI hF (fun hF => ?_) (fun hF => ?_)
          · refine Or.inl ?_
            have hz := someE hF
            subst hz
            refine Exists.intro [] (Exists.intro [] (Exists.intro [] (Exists.intro [] (Exists.intro [] (And.intro rfl (And.intro rfl (And.intro trivial trivial)))))))
          · refine Exists.intro (IntKind.i64.wrap (i + (1 : Int))) (And.intro hF (Exists.intro [] (Exists.intro [] (Exists.intro [] (Exists.intro [] (Exists.intro [(0, some 0), (1, some 1)] (And.intro rfl (And.intro rfl (And.intro (And.intro rfl (And.intro rfl trivial)) (And.intro rfl (And.intro rfl trivial)))))))))))
        · have hz := someE hF
          subst hz
          refine Exists.intro [] (Exists.intro [] (Exists.intro [] (Exists.intro [] (Exists.intro [] (And.intro rfl (And.intro trivial trivial))))))
      · rcases z3 with z3a | z3b
        · dsimp only [sumF] at hF
          refine And.intro ?_ trivial
          have hy := someE hF
          subst hy
          refine And.intro rfl (Exists.intro [] (Exists.intro [] (Exists.intro [] (Exists.intro [] (Exists.intro [] (And.intro rfl (And.intro rfl (And.intro trivial trivial))))))))
        · dsimp only [sumF] at hF
          refine And.intro ?_ trivial
          refine Or.inl ?_
          have hy := someE hF
          subst hy
          refine And.intro rfl (Exists.intro [] (Exists.intro [] (Exists.intro [] (Exists.intro [] (Exists.intro [] (And.intro rfl (And.intro rfl (And.intro trivial trivial))))))))
    · dsimp only [sumF] at hF
      refine And.intro ?_ trivial
      have hy := someE hF
      subst hy
      refine And.intro rfl (Exists.intro [] (Exists.intro [] (Exists.intro [] (Exists.intro [] (Exists.intro [] (And.intro rfl (And.intro rfl (And.intro trivial trivial))))))))
theorem C19_holds : C19.Holds Try.prog 19 := holds_of_vc tab_ok mixed (fn := Try.f19) (by kernel_rfl) rfl C19 (fun x y hF => C19_vc x.1 x.2 y hF)
theorem f19_in : ∃ fn, Try.prog.funcs[19]? = some fn ∧ fn.body.isSome = true ∧ (fn.name == "runtime.NumGoroutine") = false := ⟨Try.f19, by kernel_rfl, by kernel_rfl, by kernel_rfl⟩
end Go.Proofs
namespace Go.Proofs
open Go.AM
-- carousel/carousellaw7.awake
def f13 : Option Bool :=
  bindF (f22 (1 : Int) ([(4294967296 : Int), (8589934592 : Int)])) fun q2_14 =>
  bindF (f22 (2 : Int) ([(12884901888 : Int), (17179869184 : Int)])) fun r1 =>
  bindF (f17 (q2_14.2, q2_14.1) (r1.2, r1.1)) fun r2 =>
  bif (r2.1 == (0 : Int)) then
    bindF (f22 (1 : Int) ([(47244640256 : Int)])) fun q2_5 =>
    bindF (f19 (r2.2.1, r2.2.2) (q2_5.2, q2_5.1)) fun q2_6 =>
    bif q2_6 then
      bindF (f14 ([(4294967296 : Int)]) ([(5 : Int), (9 : Int)])) fun q2_11 =>
      some (q2_11 == (5 : Int))
    else
      some false
  else
    some false
def C13 : Con where
  X := Unit
  Y := Bool
  e := 0
  args x := []
  hin x := []
  F x := f13
  ret y := [.dat .bool y]
  hout y := []
  nout := 0
theorem C13_vc (y : Bool) (hF : f13 = some y) : vc Try.prog tab Try.f13.ntmps 0 (match Try.f13.body with | some c => c | none => .skip) (retK tab C13 Try.f13.results.toList y) (C13.shIn ()).st := by
  unfold f13 at hF
  refine Or.inl ?_
  refine Or.inl ?_
  refine Or.inl ?_
  obtain ⟨q2_14, hq2_14, hF⟩ := bindE hF
  refine Or.inl (And.intro f22_in (callV0 (callI C22 ((1 : Int), [(4294967296 : Int), (8589934592 : Int)]) q2_14 [] false C22_holds hq2_14 rfl rfl ?_)))
  refine (And.intro rfl (And.intro rfl (And.intro (fun h => nomatch h) (And.intro rfl (And.intro rfl (And.intro trivial (And.intro trivial ?_)))))))
  refine Or.inl ?_
  obtain ⟨r1, hr1, hF⟩ := bindE hF
  refine Or.inl (And.intro f22_in (callV0 (callI C22 ((2 : Int), [(12884901888 : Int), (17179869184 : Int)]) r1 [] false C22_holds hr1 rfl rfl ?_)))
  refine (And.intro rfl (And.intro rfl (And.intro (fun h => nomatch h) (And.intro rfl (And.intro rfl (And.intro trivial (And.intro trivial ?_)))))))
  obtain ⟨r2, hr2, hF⟩ := bindE hF
  refine Or.inl (And.intro f17_in (callV0 (callI C17 ((q2_14.2, q2_14.1), (r1.2, r1.1)) r2 [] true C17_holds hr2 rfl rfl ?_)))
  refine (And.intro rfl (And.intro rfl (And.intro rfl (And.intro rfl (And.intro (fun _ => rfl) (And.intro rfl (And.intro rfl (And.intro trivial (And.intro trivial ?_)))))))))
  refine Or.inl ?_
  refine Or.inl ?_
  refine Exists.intro (.take 0 (.take 1 (.take 2 (.take 3 (.alt 4 (.alt 5 (.alt 6 (.take 7 (.take 8 (.alt 9 (.alt 10 (.alt 11 (.take 12 (.take 13 (.take 14 .done))) .done) .done) (.alt 10 (.alt 9 (.alt 11 (.take 12 (.take 13 (.take 14 .done))) .done) .done) .done)))) .done) .done) .done))))) (Exists.intro [] (Exists.intro [] (And.intro rfl ?_)))
  refine condI hF (fun hF => ?_) (fun hF => ?_)
  · refine And.intro trivial ?_
    refine gdYT ?_
    refine Or.inl ?_
    refine And.intro trivial ?_
    refine gdYT ?_
    obtain ⟨q2_5, hq2_5, hF⟩ := bindE hF
    refine Or.inl (And.intro f22_in (callV0 (callI C22 ((1 : Int), [(47244640256 : Int)]) q2_5 [] false C22_holds hq2_5 rfl rfl ?_)))
    refine (And.intro rfl (And.intro rfl (And.intro (fun h => nomatch h) (And.intro rfl (And.intro rfl (And.intro trivial (And.intro trivial ?_)))))))
    refine And.intro trivial ?_
    refine gdYT ?_
    obtain ⟨q2_6, hq2_6, hF⟩ := bindE hF
    refine Or.inl (And.intro f19_in (callV0 (callI C19 ((r2.2.1, r2.2.2), (q2_5.2, q2_5.1)) q2_6 [] true C19_holds hq2_6 rfl rfl ?_)))
    refine (And.intro rfl (And.intro rfl (And.intro rfl (And.intro rfl (And.intro (fun _ => rfl) (And.intro rfl (And.intro rfl (And.intro trivial (And.intro trivial ?_)))))))))
    refine condT ?_
    refine And.intro (And.intro trivial ?_) ?_
    · refine condI hF (fun hF => ?_) (fun hF => ?_)
      · refine Or.inl ?_
        refine And.intro trivial ?_
        refine gdYT ?_
        refine Or.inl ?_
        refine And.intro trivial ?_
        refine gdYT ?_
        obtain ⟨q2_11, hq2_11, hF⟩ := bindE hF
        refine Or.inl (And.intro f14_in (callV0 (callI C14 ([(4294967296 : Int)], [(5 : Int), (9 : Int)]) q2_11 [] true C14_holds hq2_11 rfl rfl ?_)))
        refine (And.intro rfl (And.intro rfl (And.intro (fun _ => rfl) (And.intro rfl (And.intro rfl (And.intro trivial (And.intro trivial ?_)))))))
        refine gdYT ?_
        refine condT ?_
        have hy := someE hF
        subst hy
        refine And.intro rfl (Exists.intro [] (Exists.intro [] (Exists.intro [] (Exists.intro [] (Exists.intro [] (And.intro rfl (And.intro rfl (And.intro trivial trivial))))))))
      · refine And.intro trivial ?_
        refine gdNT ?_
        refine And.intro trivial ?_
        refine gdNT ?_
        refine gdNT ?_
        refine condF ?_
        have hy := someE hF
        subst hy
        refine And.intro rfl (Exists.intro [] (Exists.intro [] (Exists.intro [] (Exists.intro [] (Exists.intro [] (And.intro rfl (And.intro rfl (And.intro trivial trivial))))))))
    · refine condI hF (fun hF => ?_) (fun hF => ?_)
      · refine Or.inl ?_
        refine And.intro trivial ?_
        refine gdYT ?_
        refine Or.inl ?_
        refine And.intro trivial ?_
        refine gdYT ?_
        obtain ⟨q2_11, hq2_11, hF⟩ := bindE hF
        refine Or.inl (And.intro f14_in (callV0 (callI C14 ([(4294967296 : Int)], [(5 : Int), (9 : Int)]) q2_11 [] true C14_holds hq2_11 rfl rfl ?_)))
        refine (And.intro rfl (And.intro rfl (And.intro (fun _ => rfl) (And.intro rfl (And.intro rfl (And.intro trivial (And.intro trivial ?_)))))))
        refine gdYT ?_
        refine condT ?_
        have hy := someE hF
        subst hy
        refine And.intro rfl (Exists.intro [] (Exists.intro [] (Exists.intro [] (Exists.intro [] (Exists.intro [] (And.intro rfl (And.intro rfl (And.intro trivial trivial))))))))
      · refine And.intro trivial ?_
        refine gdNT ?_
        refine And.intro trivial ?_
        refine gdNT ?_
        refine gdNT ?_
        refine condF ?_
        have hy := someE hF
        subst hy
        refine And.intro rfl (Exists.intro [] (Exists.intro [] (Exists.intro [] (Exists.intro [] (Exists.intro [] (And.intro rfl (And.intro rfl (And.intro trivial trivial))))))))
  · refine And.intro trivial ?_
    refine gdNT ?_
    refine And.intro trivial ?_
    refine gdNT ?_
    refine And.intro trivial ?_
    refine gdNT ?_
    refine condF ?_
    refine And.intro (And.intro trivial ?_) ?_
    · refine gdNT ?_
      refine And.intro trivial ?_
      refine gdNT ?_
      refine And.intro trivial ?_
      refine gdNT ?_
      refine gdNT ?_
      refine condF ?_
      have hy := someE hF
      subst hy
      refine And.intro rfl (Exists.intro [] (Exists.intro [] (Exists.intro [] (Exists.intro [] (Exists.intro [] (And.intro rfl (And.intro rfl (And.intro trivial trivial))))))))
    · refine gdNT ?_
      refine And.intro trivial ?_
      refine gdNT ?_
      refine And.intro trivial ?_
      refine gdNT ?_
      refine gdNT ?_
      refine condF ?_
      have hy := someE hF
      subst hy
      refine And.intro rfl (Exists.intro [] (Exists.intro [] (Exists.intro [] (Exists.intro [] (Exists.intro [] (And.intro rfl (And.intro rfl (And.intro trivial trivial))))))))
theorem C13_holds : C13.Holds Try.prog 13 := holds_of_vc tab_ok mixed (fn := Try.f13) (by kernel_rfl) rfl C13 (fun x y hF => C13_vc y hF)
theorem f13_in : ∃ fn, Try.prog.funcs[13]? = some fn ∧ fn.body.isSome = true ∧ (fn.name == "runtime.NumGoroutine") = false := ⟨Try.f13, by kernel_rfl, by kernel_rfl, by kernel_rfl⟩
end Go.Proofs
namespace Go.Proofs
open Go.AM
-- carousel/carouselref1.size
def f72 (n : Int) : Option Int :=
  bif (decide (n < (0 : Int))) then
    some (IntKind.u64.wrap ((IntKind.u64.wrap (IntKind.i64.wrap (0 - (IntKind.i64.wrap (n + (1 : Int)))))) + (1 : Int)))
  else
    some (IntKind.u64.wrap n)
def C72 : Con where
  X := Int
  Y := Int
  e := 0
  args x := [.dat (.int .i64) x]
  hin x := []
  F x := f72 x
  ret y := [.dat (.int .u64) y]
  hout y := []
  nout := 0
theorem C72_vc (n : Int) (y : Int) (hF : f72 n = some y) : vc Try.prog tab Try.f72.ntmps 0 (match Try.f72.body with | some c => c | none => .skip) (retK tab C72 Try.f72.results.toList y) (C72.shIn n).st := by
  unfold f72 at hF
  refine Or.inl ?_
  refine Or.inl ?_
  refine Or.inl ?_
  refine condI hF (fun hF => ?_) (fun hF => ?_)
  · refine Or.inl ?_
    have hy := someE hF
    subst hy
    refine And.intro rfl (Exists.intro [] (Exists.intro [] (Exists.intro [] (Exists.intro [] (Exists.intro [] (And.intro rfl (And.intro rfl (And.intro trivial trivial))))))))
  · refine Or.inl ?_
    have hy := someE hF
    subst hy
    refine And.intro rfl (Exists.intro [] (Exists.intro [] (Exists.intro [] (Exists.intro [] (Exists.intro [] (And.intro rfl (And.intro rfl (And.intro trivial trivial))))))))
theorem C72_holds : C72.Holds Try.prog 72 := holds_of_vc tab_ok mixed (fn := Try.f72) (by kernel_rfl) rfl C72 (fun x y hF => C72_vc x y hF)
theorem f72_in : ∃ fn, Try.prog.funcs[72]? = some fn ∧ fn.body.isSome = true ∧ (fn.name == "runtime.NumGoroutine") = false := ⟨Try.f72, by kernel_rfl, by kernel_rfl, by kernel_rfl⟩
end Go.Proofs
namespace Go.Proofs
open Go.AM
-- carousel/carouselref1.plus
def f69_l1 (a_0 : Int) (a_1 : Int) (a_2 : Int) (a_3 : Int) (b_0 : Int) (b_1 : Int) (b_2 : Int) (b_3 : Int) (go : (Int × Int × Int × Int × Int × Int) → Option (Int × Int × Int × Int)) (carry : Int) (i : Int) (c3_0 : Int) (c3_1 : Int) (c3_2 : Int) (c3_3 : Int) : Option (Int × Int × Int × Int) :=
  bif (decide (i < (4 : Int))) then
    guardF (0 ≤ i ∧ i < (4 : Int)) <|
    pickF i
      [(bif (decide ((IntKind.u64.wrap (a_0 + b_0)) < a_0)) then
          go ((1 : Int), (IntKind.i64.wrap (i + (1 : Int))), (IntKind.u64.wrap ((IntKind.u64.wrap (a_0 + b_0)) + carry)), c3_1, c3_2, c3_3)
        else
          bif (decide ((IntKind.u64.wrap ((IntKind.u64.wrap (a_0 + b_0)) + carry)) < (IntKind.u64.wrap (a_0 + b_0)))) then
            go ((1 : Int), (IntKind.i64.wrap (i + (1 : Int))), (IntKind.u64.wrap ((IntKind.u64.wrap (a_0 + b_0)) + carry)), c3_1, c3_2, c3_3)
          else
            go ((0 : Int), (IntKind.i64.wrap (i + (1 : Int))), (IntKind.u64.wrap ((IntKind.u64.wrap (a_0 + b_0)) + carry)), c3_1, c3_2, c3_3)),
       (bif (decide ((IntKind.u64.wrap (a_1 + b_1)) < a_1)) then
          go ((1 : Int), (IntKind.i64.wrap (i + (1 : Int))), c3_0, (IntKind.u64.wrap ((IntKind.u64.wrap (a_1 + b_1)) + carry)), c3_2, c3_3)
        else
          bif (decide ((IntKind.u64.wrap ((IntKind.u64.wrap (a_1 + b_1)) + carry)) < (IntKind.u64.wrap (a_1 + b_1)))) then
            go ((1 : Int), (IntKind.i64.wrap (i + (1 : Int))), c3_0, (IntKind.u64.wrap ((IntKind.u64.wrap (a_1 + b_1)) + carry)), c3_2, c3_3)
          else
            go ((0 : Int), (IntKind.i64.wrap (i + (1 : Int))), c3_0, (IntKind.u64.wrap ((IntKind.u64.wrap (a_1 + b_1)) + carry)), c3_2, c3_3)),
       (bif (decide ((IntKind.u64.wrap (a_2 + b_2)) < a_2)) then
          go ((1 : Int), (IntKind.i64.wrap (i + (1 : Int))), c3_0, c3_1, (IntKind.u64.wrap ((IntKind.u64.wrap (a_2 + b_2)) + carry)), c3_3)
        else
          bif (decide ((IntKind.u64.wrap ((IntKind.u64.wrap (a_2 + b_2)) + carry)) < (IntKind.u64.wrap (a_2 + b_2)))) then
            go ((1 : Int), (IntKind.i64.wrap (i + (1 : Int))), c3_0, c3_1, (IntKind.u64.wrap ((IntKind.u64.wrap (a_2 + b_2)) + carry)), c3_3)
          else
            go ((0 : Int), (IntKind.i64.wrap (i + (1 : Int))), c3_0, c3_1, (IntKind.u64.wrap ((IntKind.u64.wrap (a_2 + b_2)) + carry)), c3_3)),
       (bif (decide ((IntKind.u64.wrap (a_3 + b_3)) < a_3)) then
          go ((1 : Int), (IntKind.i64.wrap (i + (1 : Int))), c3_0, c3_1, c3_2, (IntKind.u64.wrap ((IntKind.u64.wrap (a_3 + b_3)) + carry)))
        else
          bif (decide ((IntKind.u64.wrap ((IntKind.u64.wrap (a_3 + b_3)) + carry)) < (IntKind.u64.wrap (a_3 + b_3)))) then
            go ((1 : Int), (IntKind.i64.wrap (i + (1 : Int))), c3_0, c3_1, c3_2, (IntKind.u64.wrap ((IntKind.u64.wrap (a_3 + b_3)) + carry)))
          else
            go ((0 : Int), (IntKind.i64.wrap (i + (1 : Int))), c3_0, c3_1, c3_2, (IntKind.u64.wrap ((IntKind.u64.wrap (a_3 + b_3)) + carry))))]
  else
    some (c3_0, c3_1, c3_2, c3_3)
def f69 (a_0 : Int) (a_1 : Int) (a_2 : Int) (a_3 : Int) (b_0 : Int) (b_1 : Int) (b_2 : Int) (b_3 : Int) : Option (Int × Int × Int × Int) :=
  bindF (loopF (fun go x => f69_l1 a_0 a_1 a_2 a_3 b_0 b_1 b_2 b_3 go x.1 x.2.1 x.2.2.1 x.2.2.2.1 x.2.2.2.2.1 x.2.2.2.2.2) fuelN ((0 : Int), (0 : Int), (0 : Int), (0 : Int), (0 : Int), (0 : Int))) fun z3 =>
  some (z3.1, z3.2.1, z3.2.2.1, z3.2.2.2)
def C69 : Con where
  X := Int × Int × Int × Int × Int × Int × Int × Int
  Y := Int × Int × Int × Int
  e := 0
  args x := [.raw true [(.d (.int .u64) x.1), (.d (.int .u64) x.2.1), (.d (.int .u64) x.2.2.1), (.d (.int .u64) x.2.2.2.1)], .raw true [(.d (.int .u64) x.2.2.2.2.1), (.d (.int .u64) x.2.2.2.2.2.1), (.d (.int .u64) x.2.2.2.2.2.2.1), (.d (.int .u64) x.2.2.2.2.2.2.2)]]
  hin x := []
  F x := f69 x.1 x.2.1 x.2.2.1 x.2.2.2.1 x.2.2.2.2.1 x.2.2.2.2.2.1 x.2.2.2.2.2.2.1 x.2.2.2.2.2.2.2
  ret y := [.raw true [(.d (.int .u64) y.1), (.d (.int .u64) y.2.1), (.d (.int .u64) y.2.2.1), (.d (.int .u64) y.2.2.2)]]
  hout y := []
  nout := 0
theorem C69_vc (a_0 : Int) (a_1 : Int) (a_2 : Int) (a_3 : Int) (b_0 : Int) (b_1 : Int) (b_2 : Int) (b_3 : Int) (y : Int × Int × Int × Int) (hF : f69 a_0 a_1 a_2 a_3 b_0 b_1 b_2 b_3 = some y) : vc Try.prog tab Try.f69.ntmps 0 (match Try.f69.body with | some c => c | none => .skip) (retK tab C69 Try.f69.results.toList y) (C69.shIn (a_0, a_1, a_2, a_3, b_0, b_1, b_2, b_3)).st := by
  unfold f69 at hF
  refine Or.inl ?_
  refine Or.inl ?_
  refine Or.inl ?_
  refine Or.inl ?_
  refine Or.inl ?_
  obtain ⟨z3, hz3, hF⟩ := bindE hF
  refine loopI (Int × Int × Int × Int × Int × Int) (Int × Int × Int × Int) (fun x => ⟨[(2, .raw false [(.ptr 0 0)]), (3, .raw false [(.ptr 1 0)]), (4, .raw false [(.ptr 2 0)]), (5, .raw false [(.ptr 3 0)]), (6, .dat (.int .u64) x.1), (7, .dat (.int .i64) x.2.1)], [(0, .cells [(.d (.int .u64) a_0), (.d (.int .u64) a_1), (.d (.int .u64) a_2), (.d (.int .u64) a_3)]), (1, .cells [(.d (.int .u64) b_0), (.d (.int .u64) b_1), (.d (.int .u64) b_2), (.d (.int .u64) b_3)]), (2, .cells [(.d (.int .u64) (0 : Int)), (.d (.int .u64) (0 : Int)), (.d (.int .u64) (0 : Int)), (.d (.int .u64) (0 : Int))]), (3, .cells [(.d (.int .u64) x.2.2.1), (.d (.int .u64) x.2.2.2.1), (.d (.int .u64) x.2.2.2.2.1), (.d (.int .u64) x.2.2.2.2.2)])], 4⟩) (fun z => [(2, ⟨[(4, .raw false [(.ptr 0 0)]), (5, .raw false [(.ptr 1 0)])], [(0, .cells [(.d (.int .u64) (0 : Int)), (.d (.int .u64) (0 : Int)), (.d (.int .u64) (0 : Int)), (.d (.int .u64) (0 : Int))]), (1, .cells [(.d (.int .u64) z.1), (.d (.int .u64) z.2.1), (.d (.int .u64) z.2.2.1), (.d (.int .u64) z.2.2.2)])], 2⟩)]) (loopF (fun go x => f69_l1 a_0 a_1 a_2 a_3 b_0 b_1 b_2 b_3 go x.1 x.2.1 x.2.2.1 x.2.2.2.1 x.2.2.2.2.1 x.2.2.2.2.2)) fuelN ((0 : Int), (0 : Int), (0 : Int), (0 : Int), (0 : Int), (0 : Int)) z3 (And.intro hz3 (And.intro (Exists.intro [] (Exists.intro [] (Exists.intro [] (Exists.intro [] (Exists.intro [(0, some 0), (1, some 1), (2, some 2), (3, some 3)] (And.intro rfl (And.intro rfl (And.intro rfl (And.intro (And.intro rfl (And.intro rfl (And.intro rfl (And.intro rfl trivial)))) (And.intro rfl (And.intro rfl (And.intro rfl (And.intro rfl trivial))))))))))))) (And.intro (fun _ _ h => loopZ h) (And.intro (fun m => curI (fun carry => curI (fun i => curI (fun c3_0 => curI (fun c3_1 => curI (fun c3_2 => fun c3_3 z hF => ?_)))))) ?_))))
  · have hF : f69_l1 a_0 a_1 a_2 a_3 b_0 b_1 b_2 b_3 (loopF (fun go x => f69_l1 a_0 a_1 a_2 a_3 b_0 b_1 b_2 b_3 go x.1 x.2.1 x.2.2.1 x.2.2.2.1 x.2.2.2.2.1 x.2.2.2.2.2) m) carry i c3_0 c3_1 c3_2 c3_3 = some z := hF
    unfold f69_l1 at hF
    refine Or.inl ?_
    refine Or.inl ?_
    refine condI hF (fun hF => ?_) (fun hF => ?_)
    · refine Or.inl ?_
      refine Or.inl ?_
      refine Exists.intro (.take 0 (.take 1 (.take 2 (.take 3 (.take 4 (.take 5 (.take 6 (.take 7 .done)))))))) (Exists.intro [] (Exists.intro [] (And.intro rfl ?_)))
      refine guardI hF (fun hF => ?_)
      refine And.intro (fun hk4 => ?_) ?_
      · have hF := pickE hF hk4
        dsimp only [nthO] at hF
        refine And.intro (rangeE hk4 (by decide)) ?_
        refine And.intro (fun _ => ?_) (And.intro (fun h => absurd (hk4.symm.trans h) (by decide)) (And.intro (fun h => absurd (hk4.symm.trans h) (by decide)) (And.intro (fun h => absurd (hk4.symm.trans h) (by decide)) trivial)))
        refine Or.inl ?_
        refine Or.inl ?_
        refine And.intro (rangeE hk4 (by decide)) ?_
        refine And.intro (fun _ => ?_) (And.intro (fun h => absurd (hk4.symm.trans h) (by decide)) (And.intro (fun h => absurd (hk4.symm.trans h) (by decide)) (And.intro (fun h => absurd (hk4.symm.trans h) (by decide)) trivial)))
        refine Or.inl ?_
        refine Or.inl ?_
        refine And.intro (rangeE hk4 (by decide)) ?_
        refine And.intro (fun _ => ?_) (And.intro (fun h => absurd (hk4.symm.trans h) (by decide)) (And.intro (fun h => absurd (hk4.symm.trans h) (by decide)) (And.intro (fun h => absurd (hk4.symm.trans h) (by decide)) trivial)))
        refine condN hF (fun hF => ?_) (fun hF => ?_)
        · refine gdYF ?_
          refine gdYF ?_
          refine condF ?_
          refine condI hF (fun hF => ?_) (fun hF => ?_)
          · refine Exists.intro ((1 : Int), (IntKind.i64.wrap (i + (1 : Int))), (IntKind.u64.wrap ((IntKind.u64.wrap (a_0 + b_0)) + carry)), c3_1, c3_2, c3_3) (And.intro hF (Exists.intro [] (Exists.intro [] (Exists.intro [] (Exists.intro [] (Exists.intro [(0, some 0), (1, some 1), (2, some 2), (3, some 3)] (And.intro rfl (And.intro rfl (And.intro rfl (And.intro (And.intro rfl (And.intro rfl (And.intro rfl (And.intro rfl trivial)))) (And.intro rfl (And.intro rfl (And.intro rfl (And.intro rfl trivial))))))))))))))
          · refine Exists.intro ((0 : Int), (IntKind.i64.wrap (i + (1 : Int))), (IntKind.u64.wrap ((IntKind.u64.wrap (a_0 + b_0)) + carry)), c3_1, c3_2, c3_3) (And.intro hF (Exists.intro [] (Exists.intro [] (Exists.intro [] (Exists.intro [] (Exists.intro [(0, some 0), (1, some 1), (2, some 2), (3, some 3)] (And.intro rfl (And.intro rfl (And.intro rfl (And.intro (And.intro rfl (And.intro rfl (And.intro rfl (And.intro rfl trivial)))) (And.intro rfl (And.intro rfl (And.intro rfl (And.intro rfl trivial))))))))))))))
        · refine gdNF ?_
          refine gdNF ?_
          refine condT ?_
          refine condT ?_
          refine Exists.intro ((1 : Int), (IntKind.i64.wrap (i + (1 : Int))), (IntKind.u64.wrap ((IntKind.u64.wrap (a_0 + b_0)) + carry)), c3_1, c3_2, c3_3) (And.intro hF (Exists.intro [] (Exists.intro [] (Exists.intro [] (Exists.intro [] (Exists.intro [(0, some 0), (1, some 1), (2, some 2), (3, some 3)] (And.intro rfl (And.intro rfl (And.intro rfl (And.intro (And.intro rfl (And.intro rfl (And.intro rfl (And.intro rfl trivial)))) (And.intro rfl (And.intro rfl (And.intro rfl (And.intro rfl trivial))))))))))))))
      refine And.intro (fun hk4 => ?_) ?_
      · have hF := pickE hF hk4
        dsimp only [nthO] at hF
        refine And.intro (rangeE hk4 (by decide)) ?_
        refine And.intro (fun h => absurd (hk4.symm.trans h) (by decide)) ?_
        refine And.intro (fun _ => ?_) (And.intro (fun h => absurd (hk4.symm.trans h) (by decide)) (And.intro (fun h => absurd (hk4.symm.trans h) (by decide)) trivial))
        refine Or.inl ?_
        refine Or.inl ?_
        refine And.intro (rangeE hk4 (by decide)) ?_
        refine And.intro (fun h => absurd (hk4.symm.trans h) (by decide)) ?_
        refine And.intro (fun _ => ?_) (And.intro (fun h => absurd (hk4.symm.trans h) (by decide)) (And.intro (fun h => absurd (hk4.symm.trans h) (by decide)) trivial))
        refine Or.inl ?_
        refine Or.inl ?_
        refine And.intro (rangeE hk4 (by decide)) ?_
        refine And.intro (fun h => absurd (hk4.symm.trans h) (by decide)) ?_
        refine And.intro (fun _ => ?_) (And.intro (fun h => absurd (hk4.symm.trans h) (by decide)) (And.intro (fun h => absurd (hk4.symm.trans h) (by decide)) trivial))
        refine condN hF (fun hF => ?_) (fun hF => ?_)
        · refine gdYF ?_
          refine gdYF ?_
          refine condF ?_
          refine condI hF (fun hF => ?_) (fun hF => ?_)
          · refine Exists.intro ((1 : Int), (IntKind.i64.wrap (i + (1 : Int))), c3_0, (IntKind.u64.wrap ((IntKind.u64.wrap (a_1 + b_1)) + carry)), c3_2, c3_3) (And.intro hF (Exists.intro [] (Exists.intro [] (Exists.intro [] (Exists.intro [] (Exists.intro [(0, some 0), (1, some 1), (2, some 2), (3, some 3)] (And.intro rfl (And.intro rfl (And.intro rfl (And.intro (And.intro rfl (And.intro rfl (And.intro rfl (And.intro rfl trivial)))) (And.intro rfl (And.intro rfl (And.intro rfl (And.intro rfl trivial))))))))))))))
          · refine Exists.intro ((0 : Int), (IntKind.i64.wrap (i + (1 : Int))), c3_0, (IntKind.u64.wrap ((IntKind.u64.wrap (a_1 + b_1)) + carry)), c3_2, c3_3) (And.intro hF (Exists.intro [] (Exists.intro [] (Exists.intro [] (Exists.intro [] (Exists.intro [(0, some 0), (1, some 1), (2, some 2), (3, some 3)] (And.intro rfl (And.intro rfl (And.intro rfl (And.intro (And.intro rfl (And.intro rfl (And.intro rfl (And.intro rfl trivial)))) (And.intro rfl (And.intro rfl (And.intro rfl (And.intro rfl trivial))))))))))))))
        · refine gdNF ?_
          refine gdNF ?_
          refine condT ?_
          refine condT ?_
          refine Exists.intro ((1 : Int), (IntKind.i64.wrap (i + (1 : Int))), c3_0, (IntKind.u64.wrap ((IntKind.u64.wrap (a_1 + b_1)) + carry)), c3_2, c3_3) (And.intro hF (Exists.intro [] (Exists.intro [] (Exists.intro [] (Exists.intro [] (Exists.intro [(0, some 0), (1, some 1), (2, some 2), (3, some 3)] (And.intro rfl (And.intro rfl (And.intro rfl (And.intro (And.intro rfl (And.intro rfl (And.intro rfl (And.intro rfl trivial)))) (And.intro rfl (And.intro rfl (And.intro rfl (And.intro rfl trivial))))))))))))))
      refine And.intro (fun hk4 => ?_) ?_
      · have hF := pickE hF hk4
        dsimp only [nthO] at hF
        refine And.intro (rangeE hk4 (by decide)) ?_
        refine And.intro (fun h => absurd (hk4.symm.trans h) (by decide)) ?_
        refine And.intro (fun h => absurd (hk4.symm.trans h) (by decide)) ?_
        refine And.intro (fun _ => ?_) (And.intro (fun h => absurd (hk4.symm.trans h) (by decide)) trivial)
        refine Or.inl ?_
        refine Or.inl ?_
        refine And.intro (rangeE hk4 (by decide)) ?_
        refine And.intro (fun h => absurd (hk4.symm.trans h) (by decide)) ?_
        refine And.intro (fun h => absurd (hk4.symm.trans h) (by decide)) ?_
        refine And.intro (fun _ => ?_) (And.intro (fun h => absurd (hk4.symm.trans h) (by decide)) trivial)
        refine Or.inl ?_
        refine Or.inl ?_
        refine And.intro (rangeE hk4 (by decide)) ?_
        refine And.intro (fun h => absurd (hk4.symm.trans h) (by decide)) ?_
        refine And.intro (fun h => absurd (hk4.symm.trans h) (by decide)) ?_
        refine And.intro (fun _ => ?_) (And.intro (fun h => absurd (hk4.symm.trans h) (by decide)) trivial)
        refine condN hF (fun hF => ?_) (fun hF => ?_)
        · refine gdYF ?_
          refine gdYF ?_
          refine condF ?_
          refine condI hF (fun hF => ?_) (fun hF => ?_)
          · refine Exists.intro ((1 : Int), (IntKind.i64.wrap (i + (1 : Int))), c3_0, c3_1, (IntKind.u64.wrap ((IntKind.u64.wrap (a_2 + b_2)) + carry)), c3_3) (And.intro hF (Exists.intro [] (Exists.intro [] (Exists.intro [] (Exists.intro [] (Exists.intro [(0, some 0), (1, some 1), (2, some 2), (3, some 3)] (And.intro rfl (And.intro rfl (And.intro rfl (And.intro (And.intro rfl (And.intro rfl (And.intro rfl (And.intro rfl trivial)))) (And.intro rfl (And.intro rfl (And.intro rfl (And.intro rfl trivial))))))))))))))
          · refine Exists.intro ((0 : Int), (IntKind.i64.wrap (i + (1 : Int))), c3_0, c3_1, (IntKind.u64.wrap ((IntKind.u64.wrap (a_2 + b_2)) + carry)), c3_3) (And.intro hF (Exists.intro [] (Exists.intro [] (Exists.intro [] (Exists.intro [] (Exists.intro [(0, some 0), (1, some 1), (2, some 2), (3, some 3)] (And.intro rfl (And.intro rfl (And.intro rfl (And.intro (And.intro rfl (And.intro rfl (And.intro rfl (And.intro rfl trivial)))) (And.intro rfl (And.intro rfl (And.intro rfl (And.intro rfl trivial))))))))))))))
        · refine gdNF ?_
          refine gdNF ?_
          refine condT ?_
          refine condT ?_
          refine Exists.intro ((1 : Int), (IntKind.i64.wrap (i + (1 : Int))), c3_0, c3_1, (IntKind.u64.wrap ((IntKind.u64.wrap (a_2 + b_2)) + carry)), c3_3) (And.intro hF (Exists.intro [] (Exists.intro [] (Exists.intro [] (Exists.intro [] (Exists.intro [(0, some 0), (1, some 1), (2, some 2), (3, some 3)] (And.intro rfl (And.intro rfl (And.intro rfl (And.intro (And.intro rfl (And.intro rfl (And.intro rfl (And.intro rfl trivial)))) (And.intro rfl (And.intro rfl (And.intro rfl (And.intro rfl trivial))))))))))))))
      refine And.intro (fun hk4 => ?_) trivial
      have hF := pickE hF hk4
      dsimp only [nthO] at hF
      refine And.intro (rangeE hk4 (by decide)) ?_
      refine And.intro (fun h => absurd (hk4.symm.trans h) (by decide)) ?_
      refine And.intro (fun h => absurd (hk4.symm.trans h) (by decide)) ?_
      refine And.intro (fun h => absurd (hk4.symm.trans h) (by decide)) ?_
      refine And.intro (fun _ => ?_) trivial
      refine Or.inl ?_
      refine Or.inl ?_
      refine And.intro (rangeE hk4 (by decide)) ?_
      refine And.intro (fun h => absurd (hk4.symm.trans h) (by decide)) ?_
      refine And.intro (fun h => absurd (hk4.symm.trans h) (by decide)) ?_
      refine And.intro (fun h => absurd (hk4.symm.trans h) (by decide)) ?_
      refine And.intro (fun _ => ?_) trivial
      refine Or.inl ?_
      refine Or.inl ?_
      refine And.intro (rangeE hk4 (by decide)) ?_
      refine And.intro (fun h => absurd (hk4.symm.trans h) (by decide)) ?_
      refine And.intro (fun h => absurd (hk4.symm.trans h) (by decide)) ?_
      refine And.intro (fun h => absurd (hk4.symm.trans h) (by decide)) ?_
      refine And.intro (fun _ => ?_) trivial
      refine condN hF (fun hF => ?_) (fun hF => ?_)
      · refine gdYF ?_
        refine gdYF ?_
        refine condF ?_
        refine condI hF (fun hF => ?_) (fun hF => ?_)
        · refine Exists.intro ((1 : Int), (IntKind.i64.wrap (i + (1 : Int))), c3_0, c3_1, c3_2, (IntKind.u64.wrap ((IntKind.u64.wrap (a_3 + b_3)) + carry))) (And.intro hF (Exists.intro [] (Exists.intro [] (Exists.intro [] (Exists.intro [] (Exists.intro [(0, some 0), (1, some 1), (2, some 2), (3, some 3)] (And.intro rfl (And.intro rfl (And.intro rfl (And.intro (And.intro rfl (And.intro rfl (And.intro rfl (And.intro rfl trivial)))) (And.intro rfl (And.intro rfl (And.intro rfl (And.intro rfl trivial))))))))))))))
        · refine Exists.intro ((0 : Int), (IntKind.i64.wrap (i + (1 : Int))), c3_0, c3_1, c3_2, (IntKind.u64.wrap ((IntKind.u64.wrap (a_3 + b_3)) + carry))) (And.intro hF (Exists.intro [] (Exists.intro [] (Exists.intro [] (Exists.intro [] (Exists.intro [(0, some 0), (1, some 1), (2, some 2), (3, some 3)] (And.intro rfl (And.intro rfl (And.intro rfl (And.intro (And.intro rfl (And.intro rfl (And.intro rfl (And.intro rfl trivial)))) (And.intro rfl (And.intro rfl (And.intro rfl (And.intro rfl trivial))))))))))))))
      · refine gdNF ?_
        refine gdNF ?_
        refine condT ?_
        refine condT ?_
        refine Exists.intro ((1 : Int), (IntKind.i64.wrap (i + (1 : Int))), c3_0, c3_1, c3_2, (IntKind.u64.wrap ((IntKind.u64.wrap (a_3 + b_3)) + carry))) (And.intro hF (Exists.intro [] (Exists.intro [] (Exists.intro [] (Exists.intro [] (Exists.intro [(0, some 0), (1, some 1), (2, some 2), (3, some 3)] (And.intro rfl (And.intro rfl (And.intro rfl (And.intro (And.intro rfl (And.intro rfl (And.intro rfl (And.intro rfl trivial)))) (And.intro rfl (And.intro rfl (And.intro rfl (And.intro rfl trivial))))))))))))))
    · have hz := someE hF
      subst hz
      refine Exists.intro [] (Exists.intro [] (Exists.intro [] (Exists.intro [] (Exists.intro [(0, some 2), (1, some 3)] (And.intro rfl (And.intro (And.intro rfl (And.intro rfl trivial)) (And.intro rfl (And.intro rfl trivial))))))))
  · refine And.intro ?_ trivial
    refine Or.inl ?_
    refine Or.inl ?_
    have hy := someE hF
    subst hy
    refine And.intro rfl (Exists.intro [] (Exists.intro [] (Exists.intro [] (Exists.intro [] (Exists.intro [] (And.intro rfl (And.intro (And.intro rfl trivial) trivial)))))))
theorem C69_holds : C69.Holds Try.prog 69 := holds_of_vc tab_ok mixed (fn := Try.f69) (by kernel_rfl) rfl C69 (fun x y hF => C69_vc x.1 x.2.1 x.2.2.1 x.2.2.2.1 x.2.2.2.2.1 x.2.2.2.2.2.1 x.2.2.2.2.2.2.1 x.2.2.2.2.2.2.2 y hF)
theorem f69_in : ∃ fn, Try.prog.funcs[69]? = some fn ∧ fn.body.isSome = true ∧ (fn.name == "runtime.NumGoroutine") = false := ⟨Try.f69, by kernel_rfl, by kernel_rfl, by kernel_rfl⟩
end Go.Proofs
namespace Go.Proofs
open Go.AM
-- carousel/carouselref1.Times
def f39_l1 (r1 : Int) (r2 : Int) (go : (Int × Int × Int × Int × Int) → Option (Int × Int × Int × Int)) (v40 : Int) (c1_0 : Int) (c1_1 : Int) (c1_2 : Int) (c1_3 : Int) : Option (Int × Int × Int × Int) :=
  bif (decide (v40 < (2 : Int))) then
    guardF (0 ≤ v40 ∧ v40 < (2 : Int)) <|
    pickF v40
      [(bindF (f69 c1_0 c1_1 c1_2 c1_3 (IntKind.u64.wrap ((IntKind.u64.wrap ((bitsOf IntKind.u64 (fun p q => p &&& q) r1 (4294967295 : Int)) * (Int.fdiv r2 (2 ^ min (Int.toNat (32 : Int)) (IntKind.bits IntKind.u64))))) * 2 ^ min (Int.toNat (32 : Int)) (IntKind.bits IntKind.u64))) (Int.fdiv (IntKind.u64.wrap ((bitsOf IntKind.u64 (fun p q => p &&& q) r1 (4294967295 : Int)) * (Int.fdiv r2 (2 ^ min (Int.toNat (32 : Int)) (IntKind.bits IntKind.u64))))) (2 ^ min (Int.toNat (32 : Int)) (IntKind.bits IntKind.u64))) (0 : Int) (0 : Int)) fun r9 =>
        go ((IntKind.i64.wrap (v40 + (1 : Int))), r9.1, r9.2.1, r9.2.2.1, r9.2.2.2)),
       (bindF (f69 c1_0 c1_1 c1_2 c1_3 (IntKind.u64.wrap ((IntKind.u64.wrap ((Int.fdiv r1 (2 ^ min (Int.toNat (32 : Int)) (IntKind.bits IntKind.u64))) * (bitsOf IntKind.u64 (fun p q => p &&& q) r2 (4294967295 : Int)))) * 2 ^ min (Int.toNat (32 : Int)) (IntKind.bits IntKind.u64))) (Int.fdiv (IntKind.u64.wrap ((Int.fdiv r1 (2 ^ min (Int.toNat (32 : Int)) (IntKind.bits IntKind.u64))) * (bitsOf IntKind.u64 (fun p q => p &&& q) r2 (4294967295 : Int)))) (2 ^ min (Int.toNat (32 : Int)) (IntKind.bits IntKind.u64))) (0 : Int) (0 : Int)) fun r10 =>
        go ((IntKind.i64.wrap (v40 + (1 : Int))), r10.1, r10.2.1, r10.2.2.1, r10.2.2.2))]
  else
    some (c1_0, c1_1, c1_2, c1_3)
def f39 (a : Int) (b : Int) : Option (Bool × Int × Int × Int × Int) :=
  bindF (f72 a) fun r1 =>
  bindF (f72 b) fun r2 =>
  bindF (loopF (fun go x => f39_l1 r1 r2 go x.1 x.2.1 x.2.2.1 x.2.2.2.1 x.2.2.2.2) fuelN ((0 : Int), (IntKind.u64.wrap ((bitsOf IntKind.u64 (fun p q => p &&& q) r1 (4294967295 : Int)) * (bitsOf IntKind.u64 (fun p q => p &&& q) r2 (4294967295 : Int)))), (IntKind.u64.wrap ((Int.fdiv r1 (2 ^ min (Int.toNat (32 : Int)) (IntKind.bits IntKind.u64))) * (Int.fdiv r2 (2 ^ min (Int.toNat (32 : Int)) (IntKind.bits IntKind.u64))))), (0 : Int), (0 : Int))) fun z7 =>
  some ((!((decide (a < (0 : Int))) == (decide (b < (0 : Int))))), z7.1, z7.2.1, z7.2.2.1, z7.2.2.2)
def C39 : Con where
  X := Int × Int
  Y := Bool × Int × Int × Int × Int
  e := 0
  args x := [.dat (.int .i64) x.1, .dat (.int .i64) x.2]
  hin x := []
  F x := f39 x.1 x.2
  ret y := [.raw true [(.d .bool y.1), (.d (.int .u64) y.2.1), (.d (.int .u64) y.2.2.1), (.d (.int .u64) y.2.2.2.1), (.d (.int .u64) y.2.2.2.2)]]
  hout y := []
  nout := 0
theorem C39_vc (a : Int) (b : Int) (y : Bool × Int × Int × Int × Int) (hF : f39 a b = some y) : vc Try.prog tab Try.f39.ntmps 0 (match Try.f39.body with | some c => c | none => .skip) (retK tab C39 Try.f39.results.toList y) (C39.shIn (a, b)).st := by
  unfold f39 at hF
  refine Or.inl ?_
  refine Or.inl ?_
  obtain ⟨r1, hr1, hF⟩ := bindE hF
  refine Or.inl (And.intro f72_in (callV0 (callI C72 a r1 [] false C72_holds hr1 rfl rfl ?_)))
  refine (And.intro rfl (And.intro (fun h => nomatch h) (And.intro rfl (And.intro rfl (And.intro trivial (And.intro trivial ?_))))))
  obtain ⟨r2, hr2, hF⟩ := bindE hF
  refine Or.inl (And.intro f72_in (callV0 (callI C72 b r2 [] false C72_holds hr2 rfl rfl ?_)))
  refine (And.intro rfl (And.intro (fun h => nomatch h) (And.intro rfl (And.intro rfl (And.intro trivial (And.intro trivial ?_))))))
  refine Or.inl ?_
  refine And.intro (by decide) ?_
  refine And.intro (by decide) ?_
  refine Or.inl ?_
  refine Or.inl ?_
  refine Or.inl ?_
  refine Or.inl ?_
  obtain ⟨z7, hz7, hF⟩ := bindE hF
  refine loopI (Int × Int × Int × Int × Int) (Int × Int × Int × Int) (fun x => ⟨[(0, .dat (.int .i64) a), (1, .dat (.int .i64) b), (4, .raw false [(.ptr 0 0)]), (11, .raw false [(.ptr 1 0)]), (39, .raw true [(.d (.int .u64) (IntKind.u64.wrap ((bitsOf IntKind.u64 (fun p q => p &&& q) r1 (4294967295 : Int)) * (Int.fdiv r2 (2 ^ min (Int.toNat (32 : Int)) (IntKind.bits IntKind.u64)))))), (.d (.int .u64) (IntKind.u64.wrap ((Int.fdiv r1 (2 ^ min (Int.toNat (32 : Int)) (IntKind.bits IntKind.u64))) * (bitsOf IntKind.u64 (fun p q => p &&& q) r2 (4294967295 : Int)))))]), (40, .dat (.int .i64) x.1)], [(0, .cells [(.d .bool false), (.d (.int .u64) (0 : Int)), (.d (.int .u64) (0 : Int)), (.d (.int .u64) (0 : Int)), (.d (.int .u64) (0 : Int))]), (1, .cells [(.d (.int .u64) x.2.1), (.d (.int .u64) x.2.2.1), (.d (.int .u64) x.2.2.2.1), (.d (.int .u64) x.2.2.2.2)])], 2⟩) (fun z => [(2, ⟨[(0, .dat (.int .i64) a), (1, .dat (.int .i64) b), (4, .raw false [(.ptr 0 0)]), (11, .raw false [(.ptr 1 0)])], [(0, .cells [(.d .bool false), (.d (.int .u64) (0 : Int)), (.d (.int .u64) (0 : Int)), (.d (.int .u64) (0 : Int)), (.d (.int .u64) (0 : Int))]), (1, .cells [(.d (.int .u64) z.1), (.d (.int .u64) z.2.1), (.d (.int .u64) z.2.2.1), (.d (.int .u64) z.2.2.2)])], 2⟩)]) (loopF (fun go x => f39_l1 r1 r2 go x.1 x.2.1 x.2.2.1 x.2.2.2.1 x.2.2.2.2)) fuelN ((0 : Int), (IntKind.u64.wrap ((bitsOf IntKind.u64 (fun p q => p &&& q) r1 (4294967295 : Int)) * (bitsOf IntKind.u64 (fun p q => p &&& q) r2 (4294967295 : Int)))), (IntKind.u64.wrap ((Int.fdiv r1 (2 ^ min (Int.toNat (32 : Int)) (IntKind.bits IntKind.u64))) * (Int.fdiv r2 (2 ^ min (Int.toNat (32 : Int)) (IntKind.bits IntKind.u64))))), (0 : Int), (0 : Int)) z7 (And.intro hz7 (And.intro (Exists.intro [] (Exists.intro [] (Exists.intro [] (Exists.intro [] (Exists.intro [(0, some 0), (1, some 1)] (And.intro rfl (And.intro rfl (And.intro rfl (And.intro rfl (And.intro (And.intro rfl (And.intro rfl (And.intro rfl trivial))) (And.intro rfl (And.intro rfl trivial)))))))))))) (And.intro (fun _ _ h => loopZ h) (And.intro (fun m => curI (fun v40 => curI (fun c1_0 => curI (fun c1_1 => curI (fun c1_2 => fun c1_3 z hF => ?_))))) ?_))))
  · have hF : f39_l1 r1 r2 (loopF (fun go x => f39_l1 r1 r2 go x.1 x.2.1 x.2.2.1 x.2.2.2.1 x.2.2.2.2) m) v40 c1_0 c1_1 c1_2 c1_3 = some z := hF
    unfold f39_l1 at hF
    refine Or.inl ?_
    refine Or.inl ?_
    refine condI hF (fun hF => ?_) (fun hF => ?_)
    · refine Or.inl ?_
      refine Or.inl ?_
      refine guardI hF (fun hF => ?_)
      refine And.intro (fun hk8 => ?_) ?_
      · have hF := pickE hF hk8
        dsimp only [nthO] at hF
        refine And.intro (by decide) ?_
        refine And.intro (by decide) ?_
        obtain ⟨r9, hr9, hF⟩ := bindE hF
        refine Or.inl (And.intro f69_in (callV0 (callI C69 (c1_0, c1_1, c1_2, c1_3, (IntKind.u64.wrap ((IntKind.u64.wrap ((bitsOf IntKind.u64 (fun p q => p &&& q) r1 (4294967295 : Int)) * (Int.fdiv r2 (2 ^ min (Int.toNat (32 : Int)) (IntKind.bits IntKind.u64))))) * 2 ^ min (Int.toNat (32 : Int)) (IntKind.bits IntKind.u64))), (Int.fdiv (IntKind.u64.wrap ((bitsOf IntKind.u64 (fun p q => p &&& q) r1 (4294967295 : Int)) * (Int.fdiv r2 (2 ^ min (Int.toNat (32 : Int)) (IntKind.bits IntKind.u64))))) (2 ^ min (Int.toNat (32 : Int)) (IntKind.bits IntKind.u64))), (0 : Int), (0 : Int)) r9 [] false C69_holds hr9 rfl rfl ?_)))
        refine (And.intro (fun h => nomatch h) (And.intro rfl (And.intro rfl (And.intro (And.intro rfl (And.intro rfl trivial)) (And.intro trivial ?_)))))
        refine Or.inl ?_
        refine Exists.intro ((IntKind.i64.wrap (v40 + (1 : Int))), r9.1, r9.2.1, r9.2.2.1, r9.2.2.2) (And.intro hF (Exists.intro [] (Exists.intro [] (Exists.intro [] (Exists.intro [] (Exists.intro [(0, some 0), (1, some 1)] (And.intro rfl (And.intro rfl (And.intro rfl (And.intro rfl (And.intro (And.intro rfl (And.intro rfl (And.intro rfl trivial))) (And.intro rfl (And.intro rfl trivial)))))))))))))
      refine And.intro (fun hk8 => ?_) trivial
      have hF := pickE hF hk8
      dsimp only [nthO] at hF
      refine And.intro (by decide) ?_
      refine And.intro (by decide) ?_
      obtain ⟨r10, hr10, hF⟩ := bindE hF
      refine Or.inl (And.intro f69_in (callV0 (callI C69 (c1_0, c1_1, c1_2, c1_3, (IntKind.u64.wrap ((IntKind.u64.wrap ((Int.fdiv r1 (2 ^ min (Int.toNat (32 : Int)) (IntKind.bits IntKind.u64))) * (bitsOf IntKind.u64 (fun p q => p &&& q) r2 (4294967295 : Int)))) * 2 ^ min (Int.toNat (32 : Int)) (IntKind.bits IntKind.u64))), (Int.fdiv (IntKind.u64.wrap ((Int.fdiv r1 (2 ^ min (Int.toNat (32 : Int)) (IntKind.bits IntKind.u64))) * (bitsOf IntKind.u64 (fun p q => p &&& q) r2 (4294967295 : Int)))) (2 ^ min (Int.toNat (32 : Int)) (IntKind.bits IntKind.u64))), (0 : Int), (0 : Int)) r10 [] false C69_holds hr10 rfl rfl ?_)))
      refine (And.intro (fun h => nomatch h) (And.intro rfl (And.intro rfl (And.intro (And.intro rfl (And.intro rfl trivial)) (And.intro trivial ?_)))))
      refine Or.inl ?_
      refine Exists.intro ((IntKind.i64.wrap (v40 + (1 : Int))), r10.1, r10.2.1, r10.2.2.1, r10.2.2.2) (And.intro hF (Exists.intro [] (Exists.intro [] (Exists.intro [] (Exists.intro [] (Exists.intro [(0, some 0), (1, some 1)] (And.intro rfl (And.intro rfl (And.intro rfl (And.intro rfl (And.intro (And.intro rfl (And.intro rfl (And.intro rfl trivial))) (And.intro rfl (And.intro rfl trivial)))))))))))))
    · have hz := someE hF
      subst hz
      refine Exists.intro [] (Exists.intro [] (Exists.intro [] (Exists.intro [] (Exists.intro [(0, some 0), (1, some 1)] (And.intro rfl (And.intro rfl (And.intro rfl (And.intro (And.intro rfl (And.intro rfl trivial)) (And.intro rfl (And.intro rfl trivial))))))))))
  · refine And.intro ?_ trivial
    refine Or.inl ?_
    refine Or.inl ?_
    have hy := someE hF
    subst hy
    refine And.intro rfl (Exists.intro [] (Exists.intro [] (Exists.intro [] (Exists.intro [] (Exists.intro [] (And.intro rfl (And.intro (And.intro rfl trivial) trivial)))))))
theorem C39_holds : C39.Holds Try.prog 39 := holds_of_vc tab_ok mixed (fn := Try.f39) (by kernel_rfl) rfl C39 (fun x y hF => C39_vc x.1 x.2 y hF)
theorem f39_in : ∃ fn, Try.prog.funcs[39]? = some fn ∧ fn.body.isSome = true ∧ (fn.name == "runtime.NumGoroutine") = false := ⟨Try.f39, by kernel_rfl, by kernel_rfl, by kernel_rfl⟩
end Go.Proofs
namespace Go.Proofs
open Go.AM
-- carousel/carouselref1.less
def f70_l1 (a_0 : Int) (a_1 : Int) (a_2 : Int) (a_3 : Int) (b_0 : Int) (b_1 : Int) (b_2 : Int) (b_3 : Int) (go : Int → Option (Sum Bool Unit)) (i : Int) : Option (Sum Bool Unit) :=
  bif (decide (i ≥ (0 : Int))) then
    guardF (0 ≤ i ∧ i < (4 : Int)) <|
    pickF i
      [(bif (a_0 != b_0) then
          some (Sum.inl (decide (a_0 < b_0)))
        else
          go (IntKind.i64.wrap (i - (1 : Int)))),
       (bif (a_1 != b_1) then
          some (Sum.inl (decide (a_1 < b_1)))
        else
          go (IntKind.i64.wrap (i - (1 : Int)))),
       (bif (a_2 != b_2) then
          some (Sum.inl (decide (a_2 < b_2)))
        else
          go (IntKind.i64.wrap (i - (1 : Int)))),
       (bif (a_3 != b_3) then
          some (Sum.inl (decide (a_3 < b_3)))
        else
          go (IntKind.i64.wrap (i - (1 : Int))))]
  else
    some (Sum.inr ())
def f70 (a_0 : Int) (a_1 : Int) (a_2 : Int) (a_3 : Int) (b_0 : Int) (b_1 : Int) (b_2 : Int) (b_3 : Int) : Option Bool :=
  bindF (loopF (fun go x => f70_l1 a_0 a_1 a_2 a_3 b_0 b_1 b_2 b_3 go x) fuelN (3 : Int)) fun z2 =>
  sumF z2 (fun z2a =>
    some z2a) (fun z2b =>
    some false)
def C70 : Con where
  X := Int × Int × Int × Int × Int × Int × Int × Int
  Y := Bool
  e := 0
  args x := [.raw true [(.d (.int .u64) x.1), (.d (.int .u64) x.2.1), (.d (.int .u64) x.2.2.1), (.d (.int .u64) x.2.2.2.1)], .raw true [(.d (.int .u64) x.2.2.2.2.1), (.d (.int .u64) x.2.2.2.2.2.1), (.d (.int .u64) x.2.2.2.2.2.2.1), (.d (.int .u64) x.2.2.2.2.2.2.2)]]
  hin x := []
  F x := f70 x.1 x.2.1 x.2.2.1 x.2.2.2.1 x.2.2.2.2.1 x.2.2.2.2.2.1 x.2.2.2.2.2.2.1 x.2.2.2.2.2.2.2
  ret y := [.dat .bool y]
  hout y := []
  nout := 0
theorem C70_vc (a_0 : Int) (a_1 : Int) (a_2 : Int) (a_3 : Int) (b_0 : Int) (b_1 : Int) (b_2 : Int) (b_3 : Int) (y : Bool) (hF : f70 a_0 a_1 a_2 a_3 b_0 b_1 b_2 b_3 = some y) : vc Try.prog tab Try.f70.ntmps 0 (match Try.f70.body with | some c => c | none => .skip) (retK tab C70 Try.f70.results.toList y) (C70.shIn (a_0, a_1, a_2, a_3, b_0, b_1, b_2, b_3)).st := by
  unfold f70 at hF
  refine Or.inl ?_
  refine Or.inl ?_
  refine Or.inl ?_
  obtain ⟨z2, hz2, hF⟩ := bindE hF
  refine loopI Int (Sum Bool Unit) (fun x => ⟨[(2, .raw false [(.ptr 0 0)]), (3, .raw false [(.ptr 1 0)]), (5, .dat (.int .i64) x)], [(0, .cells [(.d (.int .u64) a_0), (.d (.int .u64) a_1), (.d (.int .u64) a_2), (.d (.int .u64) a_3)]), (1, .cells [(.d (.int .u64) b_0), (.d (.int .u64) b_1), (.d (.int .u64) b_2), (.d (.int .u64) b_3)])], 2⟩) (fun z => Sum.elim (fun za => [(1, ⟨[(4, .dat .bool za)], [], 0⟩)]) (fun zb => [(2, ⟨[], [], 0⟩)]) z) (loopF (fun go x => f70_l1 a_0 a_1 a_2 a_3 b_0 b_1 b_2 b_3 go x)) fuelN (3 : Int) z2 (And.intro hz2 (And.intro (Exists.intro [] (Exists.intro [] (Exists.intro [] (Exists.intro [] (Exists.intro [(0, some 0), (1, some 1)] (And.intro rfl (And.intro rfl (And.intro (And.intro rfl (And.intro rfl trivial)) (And.intro rfl (And.intro rfl trivial)))))))))) (And.intro (fun _ _ h => loopZ h) (And.intro (fun m => fun i z hF => ?_) ?_))))
  · have hF : f70_l1 a_0 a_1 a_2 a_3 b_0 b_1 b_2 b_3 (loopF (fun go x => f70_l1 a_0 a_1 a_2 a_3 b_0 b_1 b_2 b_3 go x) m) i = some z := hF
    unfold f70_l1 at hF
    refine Or.inl ?_
    refine Or.inl ?_
    refine condI hF (fun hF => ?_) (fun hF => ?_)
    · refine Or.inl ?_
      refine Or.inl ?_
      refine Exists.intro (.take 0 (.take 1 (.take 2 (.take 3 (.take 4 (.take 5 (.take 6 .done))))))) (Exists.intro [] (Exists.intro [] (And.intro rfl ?_)))
      refine guardI hF (fun hF => ?_)
      refine And.intro (fun hk3 => ?_) ?_
      · have hF := pickE hF hk3
        dsimp only [nthO] at hF
        refine And.intro (rangeE hk3 (by decide)) ?_
        refine And.intro (fun _ => ?_) (And.intro (fun h => absurd (hk3.symm.trans h) (by decide)) (And.intro (fun h => absurd (hk3.symm.trans h) (by decide)) (And.intro (fun h => absurd (hk3.symm.trans h) (by decide)) trivial)))
        refine condI hF (fun hF => ?_) (fun hF => ?_)
        · refine Or.inl ?_
          refine Exists.intro (.take 0 (.take 1 (.take 2 (.take 3 (.take 4 (.take 5 (.take 6 (.take 7 .done)))))))) (Exists.intro [] (Exists.intro [] (And.intro rfl ?_)))
          refine And.intro (rangeE hk3 (by decide)) ?_
          refine And.intro (fun _ => ?_) (And.intro (fun h => absurd (hk3.symm.trans h) (by decide)) (And.intro (fun h => absurd (hk3.symm.trans h) (by decide)) (And.intro (fun h => absurd (hk3.symm.trans h) (by decide)) trivial)))
          refine And.intro (rangeE hk3 (by decide)) ?_
          refine And.intro (fun _ => ?_) (And.intro (fun h => absurd (hk3.symm.trans h) (by decide)) (And.intro (fun h => absurd (hk3.symm.trans h) (by decide)) (And.intro (fun h => absurd (hk3.symm.trans h) (by decide)) trivial)))
          have hz := someE hF
          subst hz
          refine Exists.intro [] (Exists.intro [] (Exists.intro [] (Exists.intro [] (Exists.intro [] (And.intro rfl (And.intro rfl (And.intro trivial trivial)))))))
        · refine Exists.intro (IntKind.i64.wrap (i - (1 : Int))) (And.intro hF (Exists.intro [] (Exists.intro [] (Exists.intro [] (Exists.intro [] (Exists.intro [(0, some 0), (1, some 1)] (And.intro rfl (And.intro rfl (And.intro (And.intro rfl (And.intro rfl trivial)) (And.intro rfl (And.intro rfl trivial)))))))))))
      refine And.intro (fun hk3 => ?_) ?_
      · have hF := pickE hF hk3
        dsimp only [nthO] at hF
        refine And.intro (rangeE hk3 (by decide)) ?_
        refine And.intro (fun h => absurd (hk3.symm.trans h) (by decide)) ?_
        refine And.intro (fun _ => ?_) (And.intro (fun h => absurd (hk3.symm.trans h) (by decide)) (And.intro (fun h => absurd (hk3.symm.trans h) (by decide)) trivial))
        refine condI hF (fun hF => ?_) (fun hF => ?_)
        · refine Or.inl ?_
          refine Exists.intro (.take 0 (.take 1 (.take 2 (.take 3 (.take 4 (.take 5 (.take 6 (.take 7 .done)))))))) (Exists.intro [] (Exists.intro [] (And.intro rfl ?_)))
          refine And.intro (rangeE hk3 (by decide)) ?_
          refine And.intro (fun h => absurd (hk3.symm.trans h) (by decide)) ?_
          refine And.intro (fun _ => ?_) (And.intro (fun h => absurd (hk3.symm.trans h) (by decide)) (And.intro (fun h => absurd (hk3.symm.trans h) (by decide)) trivial))
          refine And.intro (rangeE hk3 (by decide)) ?_
          refine And.intro (fun h => absurd (hk3.symm.trans h) (by decide)) ?_
          refine And.intro (fun _ => ?_) (And.intro (fun h => absurd (hk3.symm.trans h) (by decide)) (And.intro (fun h => absurd (hk3.symm.trans h) (by decide)) trivial))
          have hz := someE hF
          subst hz
          refine Exists.intro [] (Exists.intro [] (Exists.intro [] (Exists.intro [] (Exists.intro [] (And.intro rfl (And.intro rfl (And.intro trivial trivial)))))))
        · refine Exists.intro (IntKind.i64.wrap (i - (1 : Int))) (And.intro hF (Exists.intro [] (Exists.intro [] (Exists.intro [] (Exists.intro [] (Exists.intro [(0, some 0), (1, some 1)] (And.intro rfl (And.intro rfl (And.intro (And.intro rfl (And.intro rfl trivial)) (And.intro rfl (And.intro rfl trivial)))))))))))
      refine And.intro (fun hk3 => ?_) ?_
      · have hF := pickE hF hk3
        dsimp only [nthO] at hF
        refine And.intro (rangeE hk3 (by decide)) ?_
        refine And.intro (fun h => absurd (hk3.symm.trans h) (by decide)) ?_
        refine And.intro (fun h => absurd (hk3.symm.trans h) (by decide)) ?_
        refine And.intro (fun _ => ?_) (And.intro (fun h => absurd (hk3.symm.trans h) (by decide)) trivial)
        refine condI hF (fun hF => ?_) (fun hF => ?_)
        · refine Or.inl ?_
          refine Exists.intro (.take 0 (.take 1 (.take 2 (.take 3 (.take 4 (.take 5 (.take 6 (.take 7 .done)))))))) (Exists.intro [] (Exists.intro [] (And.intro rfl ?_)))
          refine And.intro (rangeE hk3 (by decide)) ?_
          refine And.intro (fun h => absurd (hk3.symm.trans h) (by decide)) ?_
          refine And.intro (fun h => absurd (hk3.symm.trans h) (by decide)) ?_
          refine And.intro (fun _ => ?_) (And.intro (fun h => absurd (hk3.symm.trans h) (by decide)) trivial)
          refine And.intro (rangeE hk3 (by decide)) ?_
          refine And.intro (fun h => absurd (hk3.symm.trans h) (by decide)) ?_
          refine And.intro (fun h => absurd (hk3.symm.trans h) (by decide)) ?_
          refine And.intro (fun _ => ?_) (And.intro (fun h => absurd (hk3.symm.trans h) (by decide)) trivial)
          have hz := someE hF
          subst hz
          refine Exists.intro [] (Exists.intro [] (Exists.intro [] (Exists.intro [] (Exists.intro [] (And.intro rfl (And.intro rfl (And.intro trivial trivial)))))))
        · refine Exists.intro (IntKind.i64.wrap (i - (1 : Int))) (And.intro hF (Exists.intro [] (Exists.intro [] (Exists.intro [] (Exists.intro [] (Exists.intro [(0, some 0), (1, some 1)] (And.intro rfl (And.intro rfl (And.intro (And.intro rfl (And.intro rfl trivial)) (And.intro rfl (And.intro rfl trivial)))))))))))
      refine And.intro (fun hk3 => ?_) trivial
      have hF := pickE hF hk3
      dsimp only [nthO] at hF
      refine And.intro (rangeE hk3 (by decide)) ?_
      refine And.intro (fun h => absurd (hk3.symm.trans h) (by decide)) ?_
      refine And.intro (fun h => absurd (hk3.symm.trans h) (by decide)) ?_
      refine And.intro (fun h => absurd (hk3.symm.trans h) (by decide)) ?_
      refine And.intro (fun _ => ?_) trivial
      refine condI hF (fun hF => ?_) (fun hF => ?_)
      · refine Or.inl ?_
        refine Exists.intro (.take 0 (.take 1 (.take 2 (.take 3 (.take 4 (.take 5 (.take 6 (.take 7 .done)))))))) (Exists.intro [] (Exists.intro [] (And.intro rfl ?_)))
        refine And.intro (rangeE hk3 (by decide)) ?_
        refine And.intro (fun h => absurd (hk3.symm.trans h) (by decide)) ?_
        refine And.intro (fun h => absurd (hk3.symm.trans h) (by decide)) ?_
        refine And.intro (fun h => absurd (hk3.symm.trans h) (by decide)) ?_
        refine And.intro (fun _ => ?_) trivial
        refine And.intro (rangeE hk3 (by decide)) ?_
        refine And.intro (fun h => absurd (hk3.symm.trans h) (by decide)) ?_
        refine And.intro (fun h => absurd (hk3.symm.trans h) (by decide)) ?_
        refine And.intro (fun h => absurd (hk3.symm.trans h) (by decide)) ?_
        refine And.intro (fun _ => ?_) trivial
        have hz := someE hF
        subst hz
        refine Exists.intro [] (Exists.intro [] (Exists.intro [] (Exists.intro [] (Exists.intro [] (And.intro rfl (And.intro rfl (And.intro trivial trivial)))))))
      · refine Exists.intro (IntKind.i64.wrap (i - (1 : Int))) (And.intro hF (Exists.intro [] (Exists.intro [] (Exists.intro [] (Exists.intro [] (Exists.intro [(0, some 0), (1, some 1)] (And.intro rfl (And.intro rfl (And.intro (And.intro rfl (And.intro rfl trivial)) (And.intro rfl (And.intro rfl trivial)))))))))))
    · have hz := someE hF
      subst hz
      refine Exists.intro [] (Exists.intro [] (Exists.intro [] (Exists.intro [] (Exists.intro [] (And.intro rfl (And.intro trivial trivial))))))
  · rcases z2 with z2a | z2b
    · dsimp only [sumF] at hF
      refine And.intro ?_ trivial
      have hy := someE hF
      subst hy
      refine And.intro rfl (Exists.intro [] (Exists.intro [] (Exists.intro [] (Exists.intro [] (Exists.intro [] (And.intro rfl (And.intro rfl (And.intro trivial trivial))))))))
    · dsimp only [sumF] at hF
      refine And.intro ?_ trivial
      refine Or.inl ?_
      have hy := someE hF
      subst hy
      refine And.intro rfl (Exists.intro [] (Exists.intro [] (Exists.intro [] (Exists.intro [] (Exists.intro [] (And.intro rfl (And.intro rfl (And.intro trivial trivial))))))))
theorem C70_holds : C70.Holds Try.prog 70 := holds_of_vc tab_ok mixed (fn := Try.f70) (by kernel_rfl) rfl C70 (fun x y hF => C70_vc x.1 x.2.1 x.2.2.1 x.2.2.2.1 x.2.2.2.2.1 x.2.2.2.2.2.1 x.2.2.2.2.2.2.1 x.2.2.2.2.2.2.2 y hF)
theorem f70_in : ∃ fn, Try.prog.funcs[70]? = some fn ∧ fn.body.isSome = true ∧ (fn.name == "runtime.NumGoroutine") = false := ⟨Try.f70, by kernel_rfl, by kernel_rfl, by kernel_rfl⟩
end Go.Proofs
