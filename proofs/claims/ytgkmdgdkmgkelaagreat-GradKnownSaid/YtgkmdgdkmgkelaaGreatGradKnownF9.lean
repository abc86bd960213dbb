import Derived.Test.YtgkmdgdkmgkelaaGreatGradKnownF8
set_option linter.unusedVariables false
set_option maxRecDepth 100000
set_option maxHeartbeats 8000000
namespace Go.Proofs
open Go.AM
-- carousel/carouselref10.Alike
def f20_l1 (a : List Int) (b : List Int) (go : Int → Option (Sum Unit Unit)) (i : Int) : Option (Sum Unit Unit) :=
  bif (decide (i < (List.length a : Int))) then
    guardF (0 ≤ i ∧ i < (List.length a : Int)) <|
    guardF (0 ≤ i ∧ i < (List.length b : Int)) <|
    bif ((rd (0 : Int) a i) != (rd (0 : Int) b i)) then
      some (Sum.inl ())
    else
      go (IntKind.i64.wrap (i + (1 : Int)))
  else
    some (Sum.inr ())
def f20 (a : List Int) (b : List Int) : Option Bool :=
  bif ((List.length a : Int) != (List.length b : Int)) then
    some false
  else
    bindF (loopF (fun go x => f20_l1 a b go x) fuelN (0 : Int)) fun z1 =>
    sumF z1 (fun z1a =>
      some false) (fun z1b =>
      some true)
def C20 : Con where
  X := (List Int) × (List Int)
  Y := Bool
  e := 0
  args x := [.dat (.sl (.int .i64)) x.1, .dat (.sl (.int .i64)) x.2]
  hin x := []
  F x := f20 x.1 x.2
  ret y := [.dat .bool y]
  hout y := []
  nout := 0
theorem C20_vc (a : List Int) (b : List Int) (y : Bool) (hF : f20 a b = some y) : vc Tryz.prog tab Tryz.f20.ntmps 0 (match Tryz.f20.body with | some c => c | none => .skip) (retK tab C20 Tryz.f20.results.toList y) (C20.shIn (a, b)).st := by
  unfold f20 at hF
  refine Or.inl ?_
  refine Or.inl ?_
  refine Or.inl ?_
  refine condI hF (fun hF => ?_) (fun hF => ?_)
  · refine Or.inl ?_
    have hy := someE hF
    subst hy
    refine And.intro rfl (Exists.intro [] (Exists.intro [] (Exists.intro [] (Exists.intro [] (Exists.intro [] (And.intro rfl (And.intro rfl (And.intro trivial trivial))))))))
  · refine Or.inl ?_
    refine Or.inl ?_
    obtain ⟨z1, hz1, hF⟩ := bindE hF
    refine loopI Int (Sum Unit Unit) (fun x => ⟨[(0, .dat (.sl (.int .i64)) a), (1, .dat (.sl (.int .i64)) b), (5, .dat (.int .i64) x)], [], 0⟩) (fun z => Sum.elim (fun za => [(1, ⟨[(4, .dat .bool false)], [], 0⟩)]) (fun zb => [(2, ⟨[], [], 0⟩)]) z) (loopF (fun go x => f20_l1 a b go x)) fuelN (0 : Int) z1 (And.intro hz1 (And.intro (Exists.intro [] (Exists.intro [] (Exists.intro [] (Exists.intro [] (Exists.intro [] (And.intro rfl (And.intro rfl (And.intro rfl (And.intro rfl (And.intro trivial trivial)))))))))) (And.intro (fun _ _ h => loopZ h) (And.intro (fun m => fun i z hF => ?_) ?_))))
    · have hF : f20_l1 a b (loopF (fun go x => f20_l1 a b go x) m) i = some z := hF
      unfold f20_l1 at hF
      refine Or.inl ?_
      refine Or.inl ?_
      refine condI hF (fun hF => ?_) (fun hF => ?_)
      · refine Or.inl ?_
        refine Or.inl ?_
        refine Exists.intro (.take 0 (.take 1 (.take 2 (.take 3 (.take 4 (.take 5 (.take 6 (.take 7 (.take 8 .done))))))))) (Exists.intro [] (Exists.intro [] (And.intro rfl ?_)))
        refine guardI hF (fun hF => ?_)
        refine guardI hF (fun hF => ?_)
        refine condI hF (fun hF => ?_) (fun hF => ?_)
        · refine Or.inl ?_
          have hz := someE hF
          subst hz
          refine Exists.intro [] (Exists.intro [] (Exists.intro [] (Exists.intro [] (Exists.intro [] (And.intro rfl (And.intro rfl (And.intro trivial trivial)))))))
        · refine Exists.intro (IntKind.i64.wrap (i + (1 : Int))) (And.intro hF (Exists.intro [] (Exists.intro [] (Exists.intro [] (Exists.intro [] (Exists.intro [] (And.intro rfl (And.intro rfl (And.intro rfl (And.intro rfl (And.intro trivial trivial)))))))))))
      · have hz := someE hF
        subst hz
        refine Exists.intro [] (Exists.intro [] (Exists.intro [] (Exists.intro [] (Exists.intro [] (And.intro rfl (And.intro trivial trivial))))))
    · rcases z1 with z1a | z1b
      · dsimp only [sumF] at hF
        refine And.intro ?_ trivial
        have hy := someE hF
        subst hy
        refine And.intro rfl (Exists.intro [] (Exists.intro [] (Exists.intro [] (Exists.intro [] (Exists.intro [] (And.intro rfl (And.intro rfl (And.intro trivial trivial))))))))
      · dsimp only [sumF] at hF
        refine And.intro ?_ trivial
        refine Or.inl ?_
        have hy := someE hF
        subst hy
        refine And.intro rfl (Exists.intro [] (Exists.intro [] (Exists.intro [] (Exists.intro [] (Exists.intro [] (And.intro rfl (And.intro rfl (And.intro trivial trivial))))))))
theorem C20_holds : C20.Holds Tryz.prog 20 := holds_of_vc tab_ok mixed (fn := Tryz.f20) (by kernel_rfl) rfl C20 (fun x y hF => C20_vc x.1 x.2 y hF)
theorem f20_in : ∃ fn, Tryz.prog.funcs[20]? = some fn ∧ fn.body.isSome = true ∧ (fn.name == "runtime.NumGoroutine") = false := ⟨Tryz.f20, by kernel_rfl, by kernel_rfl, by kernel_rfl⟩
end Go.Proofs
namespace Go.Proofs
open Go.AM
-- carousel/carousellaw14.awake
def f7 : Option Bool :=
  bindF (f9) fun r1 =>
  bindF (f19 ([(1 : Int)], [((ByteArray.mk #[100, 101, 110, 115, 101]), (1 : Int), (0 : Int))]) (1 : Int) ([(0 : Int), (0 : Int)]) ([])) fun r2 =>
  bindF (f9) fun r3 =>
  bindF (f8 ([(1 : Int)], [((ByteArray.mk #[100, 101, 110, 115, 101]), (1 : Int), (0 : Int))]) (1 : Int) ([(0 : Int), (0 : Int)]) ([(8589934592 : Int)], [(4294967296 : Int)], (0 : Int))) fun r4 =>
  bif (r2.2.2.1 == (0 : Int)) then
    bif ((List.length r2.2.2.2 : Int) == (2 : Int)) then
      guardF (0 ≤ (0 : Int) ∧ (0 : Int) < (List.length r2.2.2.2 : Int)) <|
      bif (((rd (Ty.z (.p (.int .i64) (.int .u64))) r2.2.2.2 (0 : Int)).1) == (0 : Int) && ((rd (Ty.z (.p (.int .i64) (.int .u64))) r2.2.2.2 (0 : Int)).2) == (0 : Int)) then
        bif (r4.2.1 == (0 : Int)) then
          bif (r4.1 == (4294967296 : Int)) then
            bindF (f20 r4.2.2 ([(-17179869184 : Int), (-8589934592 : Int)])) fun r5 =>
            some r5
          else
            some false
        else
          some false
      else
        some false
    else
      some false
  else
    some false
def C7 : Con where
  X := Unit
  Y := Bool
  e := 0
  args x := []
  hin x := []
  F x := f7
  ret y := [.dat .bool y]
  hout y := []
  nout := 0
theorem C7_vc (y : Bool) (hF : f7 = some y) : vc Tryz.prog tab Tryz.f7.ntmps 0 (match Tryz.f7.body with | some c => c | none => .skip) (retK tab C7 Tryz.f7.results.toList y) (C7.shIn ()).st := by
  unfold f7 at hF
  refine Or.inl ?_
  refine Or.inl ?_
  obtain ⟨r1, hr1, hF⟩ := bindE hF
  refine Or.inl (And.intro f9_in (callV0 (callI C9 () r1 [] false C9_holds hr1 rfl rfl ?_)))
  refine (And.intro (fun h => nomatch h) (And.intro rfl (And.intro rfl (And.intro trivial (And.intro trivial ?_)))))
  refine Or.inl ?_
  obtain ⟨r2, hr2, hF⟩ := bindE hF
  refine Or.inl (And.intro f19_in (callV0 (callI C19 (([(1 : Int)], [((ByteArray.mk #[100, 101, 110, 115, 101]), (1 : Int), (0 : Int))]), (1 : Int), [(0 : Int), (0 : Int)], []) r2 [] true C19_holds hr2 rfl rfl ?_)))
  refine (And.intro rfl (And.intro rfl (And.intro rfl (And.intro rfl (And.intro rfl (And.intro (fun _ => rfl) (And.intro rfl (And.intro rfl (And.intro trivial (And.intro trivial ?_))))))))))
  refine Or.inl ?_
  refine Or.inl ?_
  obtain ⟨r3, hr3, hF⟩ := bindE hF
  refine Or.inl (And.intro f9_in (callV0 (callI C9 () r3 [] false C9_holds hr3 rfl rfl ?_)))
  refine (And.intro (fun h => nomatch h) (And.intro rfl (And.intro rfl (And.intro trivial (And.intro trivial ?_)))))
  refine Or.inl ?_
  refine Or.inl ?_
  refine Or.inl ?_
  obtain ⟨r4, hr4, hF⟩ := bindE hF
  refine Or.inl (And.intro f8_in (callV0 (callI C8 (([(1 : Int)], [((ByteArray.mk #[100, 101, 110, 115, 101]), (1 : Int), (0 : Int))]), (1 : Int), [(0 : Int), (0 : Int)], ([(8589934592 : Int)], [(4294967296 : Int)], (0 : Int))) r4 [] true C8_holds hr4 rfl rfl ?_)))
  refine (And.intro rfl (And.intro rfl (And.intro rfl (And.intro rfl (And.intro rfl (And.intro rfl (And.intro (fun _ => rfl) (And.intro rfl (And.intro rfl (And.intro trivial (And.intro trivial ?_)))))))))))
  refine Or.inl ?_
  refine condI hF (fun hF => ?_) (fun hF => ?_)
  · refine gdYT ?_
    refine gdYT ?_
    refine condT ?_
    refine condI hF (fun hF => ?_) (fun hF => ?_)
    · refine gdYT ?_
      refine guardI hF (fun hF => ?_)
      refine gdYT ?_
      refine gdYT ?_
      refine gdYT ?_
      refine And.intro ⟨by kernel_rfl, by kernel_rfl, by decide, by decide⟩ ?_
      refine condT ?_
      refine condI hF (fun hF => ?_) (fun hF => ?_)
      · refine gdYT ?_
        refine condT ?_
        refine condI hF (fun hF => ?_) (fun hF => ?_)
        · refine gdYT ?_
          refine condT ?_
          refine condI hF (fun hF => ?_) (fun hF => ?_)
          · refine gdYT ?_
            refine Or.inl ?_
            refine gdYT ?_
            obtain ⟨r5, hr5, hF⟩ := bindE hF
            have hr5 : C20.F (r4.2.2, [(-17179869184 : Int), (-8589934592 : Int)]) = some r5 := hr5
            refine Or.inl (And.intro f20_in (callV0 (callI C20 _ r5 [] true C20_holds hr5 rfl rfl ?_)))
            refine (And.intro rfl (And.intro rfl (And.intro (fun _ => rfl) (And.intro rfl (And.intro rfl (And.intro trivial (And.intro trivial ?_)))))))
            refine condT ?_
            have hy := someE hF
            subst hy
            refine And.intro rfl (Exists.intro [] (Exists.intro [] (Exists.intro [] (Exists.intro [] (Exists.intro [] (And.intro rfl (And.intro rfl (And.intro trivial trivial))))))))
          · refine gdNT ?_
            refine gdNT ?_
            refine condF ?_
            have hy := someE hF
            subst hy
            refine And.intro rfl (Exists.intro [] (Exists.intro [] (Exists.intro [] (Exists.intro [] (Exists.intro [] (And.intro rfl (And.intro rfl (And.intro trivial trivial))))))))
        · refine gdNT ?_
          refine condF ?_
          refine gdNT ?_
          refine gdNT ?_
          refine gdNT ?_
          refine condF ?_
          have hy := someE hF
          subst hy
          refine And.intro rfl (Exists.intro [] (Exists.intro [] (Exists.intro [] (Exists.intro [] (Exists.intro [] (And.intro rfl (And.intro rfl (And.intro trivial trivial))))))))
      · refine gdNT ?_
        refine condF ?_
        refine gdNT ?_
        refine gdNT ?_
        refine condF ?_
        refine gdNT ?_
        refine gdNT ?_
        refine gdNT ?_
        refine condF ?_
        have hy := someE hF
        subst hy
        refine And.intro rfl (Exists.intro [] (Exists.intro [] (Exists.intro [] (Exists.intro [] (Exists.intro [] (And.intro rfl (And.intro rfl (And.intro trivial trivial))))))))
    · refine gdNT ?_
      refine gdNT ?_
      refine gdNT ?_
      refine gdNT ?_
      refine condF ?_
      refine gdNT ?_
      refine gdNT ?_
      refine condF ?_
      refine gdNT ?_
      refine gdNT ?_
      refine condF ?_
      refine gdNT ?_
      refine gdNT ?_
      refine gdNT ?_
      refine condF ?_
      have hy := someE hF
      subst hy
      refine And.intro rfl (Exists.intro [] (Exists.intro [] (Exists.intro [] (Exists.intro [] (Exists.intro [] (And.intro rfl (And.intro rfl (And.intro trivial trivial))))))))
  · refine gdNT ?_
    refine gdNT ?_
    refine condF ?_
    refine gdNT ?_
    refine gdNT ?_
    refine gdNT ?_
    refine gdNT ?_
    refine gdNT ?_
    refine condF ?_
    refine gdNT ?_
    refine gdNT ?_
    refine condF ?_
    refine gdNT ?_
    refine gdNT ?_
    refine condF ?_
    refine gdNT ?_
    refine gdNT ?_
    refine gdNT ?_
    refine condF ?_
    have hy := someE hF
    subst hy
    refine And.intro rfl (Exists.intro [] (Exists.intro [] (Exists.intro [] (Exists.intro [] (Exists.intro [] (And.intro rfl (And.intro rfl (And.intro trivial trivial))))))))
theorem C7_holds : C7.Holds Tryz.prog 7 := holds_of_vc tab_ok mixed (fn := Tryz.f7) (by kernel_rfl) rfl C7 (fun x y hF => C7_vc y hF)
theorem f7_in : ∃ fn, Tryz.prog.funcs[7]? = some fn ∧ fn.body.isSome = true ∧ (fn.name == "runtime.NumGoroutine") = false := ⟨Tryz.f7, by kernel_rfl, by kernel_rfl, by kernel_rfl⟩
end Go.Proofs
namespace Go.Proofs
open Go.AM
-- carousel/grad.Join
def f10_l1 (a : List (Int × Int)) (b : List (Int × Int)) (go : (Int × (List (Int × Int))) → Option (List (Int × Int))) (v16 : Int) (l0 : List (Int × Int)) : Option (List (Int × Int)) :=
  bif (decide (v16 < (List.length a : Int))) then
    guardF (0 ≤ v16 ∧ v16 < (List.length a : Int)) <|
    guardF (0 ≤ v16 ∧ v16 < (List.length b : Int)) <|
    bindF (f26 ((rd (Ty.z (.p (.int .i64) (.int .u64))) a v16).1, (rd (Ty.z (.p (.int .i64) (.int .u64))) a v16).2) ((rd (Ty.z (.p (.int .i64) (.int .u64))) b v16).1, (rd (Ty.z (.p (.int .i64) (.int .u64))) b v16).2)) fun q7_6 =>
    guardF ((List.length l0 + List.length ([(q7_6.1, q7_6.2)])) * 16 ≤ 140737488355328) <|
    go ((IntKind.i64.wrap (v16 + (1 : Int))), (l0 ++ ([(q7_6.1, q7_6.2)])))
  else
    some l0
def f10 (a : List (Int × Int)) (b : List (Int × Int)) : Option (Int × (List (Int × Int))) :=
  bif ((List.length a : Int) != (List.length b : Int)) then
    some ((4 : Int), [])
  else
    bindF (loopF (fun go x => f10_l1 a b go x.1 x.2) fuelN ((0 : Int), [])) fun z1 =>
    some ((0 : Int), z1)
def C10 : Con where
  X := (List (Int × Int)) × (List (Int × Int))
  Y := Int × (List (Int × Int))
  e := 0
  args x := [.dat (.sl (.p (.int .i64) (.int .u64))) x.1, .dat (.sl (.p (.int .i64) (.int .u64))) x.2]
  hin x := []
  F x := f10 x.1 x.2
  ret y := [.raw false [(.osl 0)], .dat (.int .i64) y.1]
  hout y := [(0, .arr 40 (.p (.int .i64) (.int .u64)) y.2)]
  nout := 1
theorem C10_vc (a : List (Int × Int)) (b : List (Int × Int)) (y : Int × (List (Int × Int))) (hF : f10 a b = some y) : vc Tryz.prog tab Tryz.f10.ntmps 0 (match Tryz.f10.body with | some c => c | none => .skip) (retK tab C10 Tryz.f10.results.toList y) (C10.shIn (a, b)).st := by
  unfold f10 at hF
  refine Or.inl ?_
  refine Or.inl ?_
  refine Or.inl ?_
  refine condI hF (fun hF => ?_) (fun hF => ?_)
  · refine Or.inl ?_
    have hy := someE hF
    subst hy
    refine And.intro rfl (Exists.intro [] (Exists.intro [] (Exists.intro [] (Exists.intro [] (Exists.intro [(0, none)] (And.intro rfl (And.intro rfl (And.intro (And.intro rfl trivial) (And.intro rfl trivial)))))))))
  · refine Or.inl ?_
    refine Or.inl ?_
    refine Or.inl ?_
    obtain ⟨z1, hz1, hF⟩ := bindE hF
    refine loopI (Int × (List (Int × Int))) (List (Int × Int)) (fun x => ⟨[(1, .dat (.sl (.p (.int .i64) (.int .u64))) b), (6, .raw false [(.osl 0)]), (14, .dat (.sl (.p (.int .i64) (.int .u64))) a), (15, .dat (.int .i64) (List.length a : Int)), (16, .dat (.int .i64) x.1)], [(0, .arr 40 (.p (.int .i64) (.int .u64)) x.2)], 1⟩) (fun z => [(2, ⟨[(6, .raw false [(.osl 0)])], [(0, .arr 40 (.p (.int .i64) (.int .u64)) z)], 1⟩)]) (loopF (fun go x => f10_l1 a b go x.1 x.2)) fuelN ((0 : Int), []) z1 (And.intro hz1 (And.intro (Exists.intro [] (Exists.intro [] (Exists.intro [] (Exists.intro [] (Exists.intro [(0, none)] (And.intro rfl (And.intro rfl (And.intro rfl (And.intro rfl (And.intro rfl (And.intro (And.intro rfl trivial) (And.intro rfl trivial)))))))))))) (And.intro (fun _ _ h => loopZ h) (And.intro (fun m => curI (fun v16 => fun l0 z hF => ?_)) ?_))))
    · have hF : f10_l1 a b (loopF (fun go x => f10_l1 a b go x.1 x.2) m) v16 l0 = some z := hF
      unfold f10_l1 at hF
      refine Or.inl ?_
      refine Or.inl ?_
      refine condI hF (fun hF => ?_) (fun hF => ?_)
      · refine Or.inl ?_
        refine Or.inl ?_
        refine guardI hF (fun hF => ?_)
        refine Or.inl ?_
        refine Exists.intro (.take 0 (.take 1 (.take 2 (.take 3 (.take 4 (.take 5 (.alt 6 (.alt 7 (.alt 8 (.take 9 .done) .done) .done) .done))))))) (Exists.intro [] (Exists.intro [] (And.intro rfl ?_)))
        refine guardI hF (fun hF => ?_)
        refine And.intro trivial ?_
        obtain ⟨q7_6, hq7_6, hF⟩ := bindE hF
        refine Or.inl (And.intro f26_in (callV0 (callI C26 (((rd (Ty.z (.p (.int .i64) (.int .u64))) a v16).1, (rd (Ty.z (.p (.int .i64) (.int .u64))) a v16).2), ((rd (Ty.z (.p (.int .i64) (.int .u64))) b v16).1, (rd (Ty.z (.p (.int .i64) (.int .u64))) b v16).2)) q7_6 [] false C26_holds hq7_6 rfl rfl ?_)))
        refine (And.intro rfl (And.intro rfl (And.intro rfl (And.intro rfl (And.intro (fun h => nomatch h) (And.intro rfl (And.intro rfl (And.intro trivial (And.intro trivial ?_)))))))))
        refine And.intro trivial ?_
        refine Or.inl ?_
        refine And.intro trivial ?_
        refine Or.inl ?_
        refine guardI hF (fun hF => ?_)
        refine Exists.intro ((IntKind.i64.wrap (v16 + (1 : Int))), (l0 ++ ([(q7_6.1, q7_6.2)]))) (And.intro hF (Exists.intro [] (Exists.intro [] (Exists.intro [] (Exists.intro [] (Exists.intro [(0, some 3)] (And.intro rfl (And.intro rfl (And.intro rfl (And.intro rfl (And.intro rfl (And.intro (And.intro rfl trivial) (And.intro rfl trivial)))))))))))))
      · have hz := someE hF
        subst hz
        refine Exists.intro [] (Exists.intro [] (Exists.intro [] (Exists.intro [] (Exists.intro [(0, some 0)] (And.intro rfl (And.intro (And.intro rfl trivial) (And.intro rfl trivial)))))))
    · refine And.intro ?_ trivial
      refine Or.inl ?_
      have hy := someE hF
      subst hy
      refine And.intro rfl (Exists.intro [] (Exists.intro [] (Exists.intro [] (Exists.intro [] (Exists.intro [(0, some 0)] (And.intro rfl (And.intro rfl (And.intro (And.intro rfl trivial) (And.intro rfl trivial)))))))))
theorem C10_holds : C10.Holds Tryz.prog 10 := holds_of_vc tab_ok mixed (fn := Tryz.f10) (by kernel_rfl) rfl C10 (fun x y hF => C10_vc x.1 x.2 y hF)
theorem f10_in : ∃ fn, Tryz.prog.funcs[10]? = some fn ∧ fn.body.isSome = true ∧ (fn.name == "runtime.NumGoroutine") = false := ⟨Tryz.f10, by kernel_rfl, by kernel_rfl, by kernel_rfl⟩
end Go.Proofs
namespace Go.Proofs
open Go.AM
-- carousel/carousellaw14.GradKnown
def f3_j1 : Option Int :=
  bindF (f9) fun q4_0 =>
  bindF (f8 ([(1 : Int)], [((ByteArray.mk #[100, 101, 110, 115, 101]), (1 : Int), (0 : Int))]) (4 : Int) ([(0 : Int), (0 : Int)]) ([(1 : Int)], [(1 : Int)], (0 : Int))) fun q4_3 =>
  some q4_3.2.1
def f3_j2 : Option Int :=
  bindF (f9) fun q5_0 =>
  bindF (f8 ([(1 : Int)], [((ByteArray.mk #[100, 101, 110, 115, 101]), (1 : Int), (0 : Int))]) (1 : Int) ([(0 : Int)]) ([(1 : Int)], [(1 : Int)], (0 : Int))) fun q5_3 =>
  some q5_3.2.1
def f3_j3 : Option Int :=
  guardF (0 ≤ (2 : Int) ∧ (2 : Int) ≤ (2 : Int) ∧ Int.toNat (2 : Int) * 16 ≤ 140737488355328) <|
  guardF (0 ≤ (3 : Int) ∧ (3 : Int) ≤ (3 : Int) ∧ Int.toNat (3 : Int) * 16 ≤ 140737488355328) <|
  bindF (f10 (List.replicate (Int.toNat (2 : Int)) (Ty.z (.p (.int .i64) (.int .u64)))) (List.replicate (Int.toNat (3 : Int)) (Ty.z (.p (.int .i64) (.int .u64))))) fun q9_2 =>
  some q9_2.1
def f3 : Option Bool :=
  bindF (f7) fun q9_7 =>
  bif (!q9_7) then
    some false
  else
    bindF (f3_j1) fun z1 =>
    bindF (f3_j2) fun z2 =>
    bindF (f9) fun q5_10 =>
    bindF (f8 ([(1 : Int)], [((ByteArray.mk #[100, 101, 110, 115, 101]), (1 : Int), (0 : Int))]) (1 : Int) ([(0 : Int), (0 : Int)]) ([(1 : Int)], [], (0 : Int))) fun r3 =>
    bindF (f9) fun r4 =>
    bindF (f8 ([(1 : Int)], [((ByteArray.mk #[100, 101, 110, 115, 101]), (1 : Int), (0 : Int))]) (3 : Int) ([(0 : Int), (0 : Int)]) ([(1 : Int)], [], (1 : Int))) fun r5 =>
    bindF (f8 ([], []) (1 : Int) ([]) ([(1 : Int)], [(1 : Int)], (0 : Int))) fun r6 =>
    bindF (f3_j3) fun z7 =>
    bif (z1 == (1 : Int)) then
      bif (z2 == (1 : Int)) then
        bif (r3.2.1 == (1 : Int)) then
          bif (r5.2.1 == (4 : Int)) then
            bif (r6.2.1 == (1 : Int)) then
              some (z7 == (4 : Int))
            else
              some false
          else
            some false
        else
          some false
      else
        some false
    else
      some false
def C3 : Con where
  X := Unit
  Y := Bool
  e := 0
  args x := []
  hin x := []
  F x := f3
  ret y := [.dat .bool y]
  hout y := []
  nout := 0
theorem C3_vc (y : Bool) (hF : f3 = some y) : vc Tryz.prog tab Tryz.f3.ntmps 0 (match Tryz.f3.body with | some c => c | none => .skip) (retK tab C3 Tryz.f3.results.toList y) (C3.shIn ()).st := by
  unfold f3 at hF
  refine Or.inl ?_
  refine Or.inl ?_
  refine Or.inl ?_
  obtain ⟨q9_7, hq9_7, hF⟩ := bindE hF
  refine Or.inl (And.intro f7_in (callV0 (callI C7 () q9_7 [] false C7_holds hq9_7 rfl rfl ?_)))
  refine (And.intro (fun h => nomatch h) (And.intro rfl (And.intro rfl (And.intro trivial (And.intro trivial ?_)))))
  refine condI hF (fun hF => ?_) (fun hF => ?_)
  · refine Or.inl ?_
    have hy := someE hF
    subst hy
    refine And.intro rfl (Exists.intro [] (Exists.intro [] (Exists.intro [] (Exists.intro [] (Exists.intro [] (And.intro rfl (And.intro rfl (And.intro trivial trivial))))))))
  · refine Or.inl ?_
    refine Or.inl ?_
    refine Or.inl ?_
    refine Or.inl ?_
    obtain ⟨z1, hz1, hF⟩ := bindE hF
    refine Or.inr ⟨[(0, ⟨[(1, .raw false [(.ptr 0 0)]), (4, .dat (.int .i64) z1)], [(0, .cells [(.osl 1), (.osl 2), (.d (.int .i64) (0 : Int))]), (1, .arr 23 (.int .i64) ([(1 : Int)])), (2, .arr 23 (.int .i64) ([(1 : Int)]))], 3⟩)], ?_, ?_⟩
    · have hF := hz1
      clear hz1
      unfold f3_j1 at hF
      obtain ⟨q4_0, hq4_0, hF⟩ := bindE hF
      obtain ⟨q4_3, hq4_3, hF⟩ := bindE hF
      refine Exists.intro (.take 2 (.alt 0 (.alt 1 (.alt 3 (.take 4 (.take 5 (.take 6 (.take 7 (.take 8 (.take 9 (.take 10 .done))))))) .done) .done) (.alt 1 (.alt 0 (.alt 3 (.take 4 (.take 5 (.take 6 (.take 7 (.take 8 (.take 9 (.take 10 .done))))))) .done) .done) .done))) (Exists.intro [] (Exists.intro [] (And.intro rfl ?_)))
      refine And.intro (And.intro trivial ?_) ?_
      · refine Or.inl ?_
        refine And.intro trivial ?_
        refine Or.inl (And.intro f9_in (callV0 (callI C9 () q4_0 [] false C9_holds hq4_0 rfl rfl ?_)))
        refine (And.intro (fun h => nomatch h) (And.intro rfl (And.intro rfl (And.intro trivial (And.intro trivial ?_)))))
        refine And.intro trivial ?_
        refine Or.inl (And.intro f8_in (callV0 (callI C8 (([(1 : Int)], [((ByteArray.mk #[100, 101, 110, 115, 101]), (1 : Int), (0 : Int))]), (4 : Int), [(0 : Int), (0 : Int)], ([(1 : Int)], [(1 : Int)], (0 : Int))) q4_3 [] true C8_holds hq4_3 rfl rfl ?_)))
        refine (And.intro rfl (And.intro rfl (And.intro rfl (And.intro rfl (And.intro rfl (And.intro rfl (And.intro (fun _ => rfl) (And.intro rfl (And.intro rfl (And.intro trivial (And.intro trivial ?_)))))))))))
        have hz := someE hF
        subst hz
        refine Exists.intro [] (Exists.intro [] (Exists.intro [] (Exists.intro [] (Exists.intro [(0, some 2), (1, some 0), (2, some 1)] (And.intro rfl (And.intro rfl (And.intro (And.intro rfl trivial) (And.intro rfl (And.intro rfl (And.intro rfl trivial))))))))))
      · refine Or.inl (And.intro f9_in (callV0 (callI C9 () q4_0 [] false C9_holds hq4_0 rfl rfl ?_)))
        refine (And.intro (fun h => nomatch h) (And.intro rfl (And.intro rfl (And.intro trivial (And.intro trivial ?_)))))
        refine And.intro trivial ?_
        refine Or.inl ?_
        refine And.intro trivial ?_
        refine Or.inl (And.intro f8_in (callV0 (callI C8 (([(1 : Int)], [((ByteArray.mk #[100, 101, 110, 115, 101]), (1 : Int), (0 : Int))]), (4 : Int), [(0 : Int), (0 : Int)], ([(1 : Int)], [(1 : Int)], (0 : Int))) q4_3 [] true C8_holds hq4_3 rfl rfl ?_)))
        refine (And.intro rfl (And.intro rfl (And.intro rfl (And.intro rfl (And.intro rfl (And.intro rfl (And.intro (fun _ => rfl) (And.intro rfl (And.intro rfl (And.intro trivial (And.intro trivial ?_)))))))))))
        have hz := someE hF
        subst hz
        refine Exists.intro [] (Exists.intro [] (Exists.intro [] (Exists.intro [] (Exists.intro [(0, some 2), (1, some 0), (2, some 1)] (And.intro rfl (And.intro rfl (And.intro (And.intro rfl trivial) (And.intro rfl (And.intro rfl (And.intro rfl trivial))))))))))
    · refine And.intro ?_ trivial
      obtain ⟨z2, hz2, hF⟩ := bindE hF
      refine Or.inr ⟨[(0, ⟨[(1, .raw false [(.ptr 0 0)]), (4, .dat (.int .i64) z1), (7, .dat (.int .i64) z2)], [(0, .cells [(.osl 1), (.osl 2), (.d (.int .i64) (0 : Int))]), (1, .arr 23 (.int .i64) ([(1 : Int)])), (2, .arr 23 (.int .i64) ([(1 : Int)]))], 3⟩)], ?_, ?_⟩
      · have hF := hz2
        clear hz2
        unfold f3_j2 at hF
        obtain ⟨q5_0, hq5_0, hF⟩ := bindE hF
        obtain ⟨q5_3, hq5_3, hF⟩ := bindE hF
        refine Exists.intro (.take 2 (.alt 0 (.alt 1 (.alt 3 (.take 4 (.take 5 (.take 6 (.take 7 (.take 8 (.take 9 (.take 10 .done))))))) .done) .done) (.alt 1 (.alt 0 (.alt 3 (.take 4 (.take 5 (.take 6 (.take 7 (.take 8 (.take 9 (.take 10 .done))))))) .done) .done) .done))) (Exists.intro [] (Exists.intro [] (And.intro rfl ?_)))
        refine And.intro (And.intro trivial ?_) ?_
        · refine Or.inl ?_
          refine And.intro trivial ?_
          refine Or.inl (And.intro f9_in (callV0 (callI C9 () q5_0 [] false C9_holds hq5_0 rfl rfl ?_)))
          refine (And.intro (fun h => nomatch h) (And.intro rfl (And.intro rfl (And.intro trivial (And.intro trivial ?_)))))
          refine And.intro trivial ?_
          refine Or.inl (And.intro f8_in (callV0 (callI C8 (([(1 : Int)], [((ByteArray.mk #[100, 101, 110, 115, 101]), (1 : Int), (0 : Int))]), (1 : Int), [(0 : Int)], ([(1 : Int)], [(1 : Int)], (0 : Int))) q5_3 [] true C8_holds hq5_3 rfl rfl ?_)))
          refine (And.intro rfl (And.intro rfl (And.intro rfl (And.intro rfl (And.intro rfl (And.intro rfl (And.intro (fun _ => rfl) (And.intro rfl (And.intro rfl (And.intro trivial (And.intro trivial ?_)))))))))))
          have hz := someE hF
          subst hz
          refine Exists.intro [] (Exists.intro [] (Exists.intro [] (Exists.intro [] (Exists.intro [(0, some 0), (1, some 1), (2, some 2)] (And.intro rfl (And.intro rfl (And.intro rfl (And.intro (And.intro rfl trivial) (And.intro rfl (And.intro rfl (And.intro rfl trivial)))))))))))
        · refine Or.inl (And.intro f9_in (callV0 (callI C9 () q5_0 [] false C9_holds hq5_0 rfl rfl ?_)))
          refine (And.intro (fun h => nomatch h) (And.intro rfl (And.intro rfl (And.intro trivial (And.intro trivial ?_)))))
          refine And.intro trivial ?_
          refine Or.inl ?_
          refine And.intro trivial ?_
          refine Or.inl (And.intro f8_in (callV0 (callI C8 (([(1 : Int)], [((ByteArray.mk #[100, 101, 110, 115, 101]), (1 : Int), (0 : Int))]), (1 : Int), [(0 : Int)], ([(1 : Int)], [(1 : Int)], (0 : Int))) q5_3 [] true C8_holds hq5_3 rfl rfl ?_)))
          refine (And.intro rfl (And.intro rfl (And.intro rfl (And.intro rfl (And.intro rfl (And.intro rfl (And.intro (fun _ => rfl) (And.intro rfl (And.intro rfl (And.intro trivial (And.intro trivial ?_)))))))))))
          have hz := someE hF
          subst hz
          refine Exists.intro [] (Exists.intro [] (Exists.intro [] (Exists.intro [] (Exists.intro [(0, some 0), (1, some 1), (2, some 2)] (And.intro rfl (And.intro rfl (And.intro rfl (And.intro (And.intro rfl trivial) (And.intro rfl (And.intro rfl (And.intro rfl trivial)))))))))))
      · refine And.intro ?_ trivial
        refine Or.inl ?_
        obtain ⟨q5_10, hq5_10, hF⟩ := bindE hF
        refine Or.inl (And.intro f9_in (callV0 (callI C9 () q5_10 [] false C9_holds hq5_10 rfl rfl ?_)))
        refine (And.intro (fun h => nomatch h) (And.intro rfl (And.intro rfl (And.intro trivial (And.intro trivial ?_)))))
        refine Or.inl ?_
        refine Or.inl ?_
        obtain ⟨r3, hr3, hF⟩ := bindE hF
        refine Or.inl (And.intro f8_in (callV0 (callI C8 (([(1 : Int)], [((ByteArray.mk #[100, 101, 110, 115, 101]), (1 : Int), (0 : Int))]), (1 : Int), [(0 : Int), (0 : Int)], ([(1 : Int)], [], (0 : Int))) r3 [] true C8_holds hr3 rfl rfl ?_)))
        refine (And.intro rfl (And.intro rfl (And.intro rfl (And.intro rfl (And.intro rfl (And.intro rfl (And.intro (fun _ => rfl) (And.intro rfl (And.intro rfl (And.intro trivial (And.intro trivial ?_)))))))))))
        refine Or.inl ?_
        obtain ⟨r4, hr4, hF⟩ := bindE hF
        refine Or.inl (And.intro f9_in (callV0 (callI C9 () r4 [] false C9_holds hr4 rfl rfl ?_)))
        refine (And.intro (fun h => nomatch h) (And.intro rfl (And.intro rfl (And.intro trivial (And.intro trivial ?_)))))
        refine Or.inl ?_
        refine Or.inl ?_
        obtain ⟨r5, hr5, hF⟩ := bindE hF
        refine Or.inl (And.intro f8_in (callV0 (callI C8 (([(1 : Int)], [((ByteArray.mk #[100, 101, 110, 115, 101]), (1 : Int), (0 : Int))]), (3 : Int), [(0 : Int), (0 : Int)], ([(1 : Int)], [], (1 : Int))) r5 [] true C8_holds hr5 rfl rfl ?_)))
        refine (And.intro rfl (And.intro rfl (And.intro rfl (And.intro rfl (And.intro rfl (And.intro rfl (And.intro (fun _ => rfl) (And.intro rfl (And.intro rfl (And.intro trivial (And.intro trivial ?_)))))))))))
        refine Or.inl ?_
        obtain ⟨r6, hr6, hF⟩ := bindE hF
        refine Or.inl (And.intro f8_in (callV0 (callI C8 (([], []), (1 : Int), [], ([(1 : Int)], [(1 : Int)], (0 : Int))) r6 [] true C8_holds hr6 rfl rfl ?_)))
        refine (And.intro rfl (And.intro rfl (And.intro rfl (And.intro rfl (And.intro rfl (And.intro rfl (And.intro (fun _ => rfl) (And.intro rfl (And.intro rfl (And.intro trivial (And.intro trivial ?_)))))))))))
        obtain ⟨z7, hz7, hF⟩ := bindE hF
        refine Or.inr ⟨[(0, ⟨[(4, .dat (.int .i64) z1), (7, .dat (.int .i64) z2), (10, .dat (.int .i64) r3.2.1), (13, .dat (.int .i64) r5.2.1), (16, .dat (.int .i64) r6.2.1), (18, .dat (.int .i64) z7)], [], 0⟩)], ?_, ?_⟩
        · have hF := hz7
          clear hz7
          unfold f3_j3 at hF
          obtain ⟨g9_0, hF⟩ := guardE hF
          obtain ⟨g9_1, hF⟩ := guardE hF
          obtain ⟨q9_2, hq9_2, hF⟩ := bindE hF
          refine Exists.intro (.alt 0 (.alt 1 (.alt 2 (.take 3 (.take 4 (.take 5 (.take 6 (.take 7 .done))))) .done) .done) (.alt 1 (.alt 0 (.alt 2 (.take 3 (.take 4 (.take 5 (.take 6 (.take 7 .done))))) .done) .done) .done)) (Exists.intro [] (Exists.intro [] (And.intro rfl ?_)))
          refine And.intro (And.intro trivial ?_) ?_
          · refine And.intro g9_1 ?_
            refine And.intro trivial ?_
            refine And.intro g9_0 ?_
            refine And.intro trivial ?_
            refine Or.inl (And.intro f10_in (callV0 (callI C10 ((List.replicate (Int.toNat (2 : Int)) (Ty.z (.p (.int .i64) (.int .u64)))), (List.replicate (Int.toNat (3 : Int)) (Ty.z (.p (.int .i64) (.int .u64))))) q9_2 [] true C10_holds hq9_2 rfl rfl ?_)))
            refine (And.intro rfl (And.intro rfl (And.intro (fun _ => rfl) (And.intro rfl (And.intro rfl (And.intro trivial (And.intro trivial ?_)))))))
            have hz := someE hF
            subst hz
            refine Exists.intro [] (Exists.intro [] (Exists.intro [] (Exists.intro [] (Exists.intro [] (And.intro rfl (And.intro rfl (And.intro rfl (And.intro rfl (And.intro rfl (And.intro rfl (And.intro rfl (And.intro trivial trivial))))))))))))
          · refine And.intro g9_0 ?_
            refine And.intro trivial ?_
            refine And.intro g9_1 ?_
            refine And.intro trivial ?_
            refine Or.inl (And.intro f10_in (callV0 (callI C10 ((List.replicate (Int.toNat (2 : Int)) (Ty.z (.p (.int .i64) (.int .u64)))), (List.replicate (Int.toNat (3 : Int)) (Ty.z (.p (.int .i64) (.int .u64))))) q9_2 [] true C10_holds hq9_2 rfl rfl ?_)))
            refine (And.intro rfl (And.intro rfl (And.intro (fun _ => rfl) (And.intro rfl (And.intro rfl (And.intro trivial (And.intro trivial ?_)))))))
            have hz := someE hF
            subst hz
            refine Exists.intro [] (Exists.intro [] (Exists.intro [] (Exists.intro [] (Exists.intro [] (And.intro rfl (And.intro rfl (And.intro rfl (And.intro rfl (And.intro rfl (And.intro rfl (And.intro rfl (And.intro trivial trivial))))))))))))
        · refine And.intro ?_ trivial
          refine Or.inl ?_
          refine condI hF (fun hF => ?_) (fun hF => ?_)
          · refine gdYT ?_
            refine condT ?_
            refine condI hF (fun hF => ?_) (fun hF => ?_)
            · refine gdYT ?_
              refine condT ?_
              refine condI hF (fun hF => ?_) (fun hF => ?_)
              · refine gdYT ?_
                refine condT ?_
                refine condI hF (fun hF => ?_) (fun hF => ?_)
                · refine gdYT ?_
                  refine condT ?_
                  refine condI hF (fun hF => ?_) (fun hF => ?_)
                  · refine gdYT ?_
                    refine condT ?_
                    have hy := someE hF
                    subst hy
                    refine And.intro rfl (Exists.intro [] (Exists.intro [] (Exists.intro [] (Exists.intro [] (Exists.intro [] (And.intro rfl (And.intro rfl (And.intro trivial trivial))))))))
                  · refine gdNT ?_
                    refine condF ?_
                    have hy := someE hF
                    subst hy
                    refine And.intro rfl (Exists.intro [] (Exists.intro [] (Exists.intro [] (Exists.intro [] (Exists.intro [] (And.intro rfl (And.intro rfl (And.intro trivial trivial))))))))
                · refine gdNT ?_
                  refine condF ?_
                  refine gdNT ?_
                  refine gdNT ?_
                  refine condF ?_
                  have hy := someE hF
                  subst hy
                  refine And.intro rfl (Exists.intro [] (Exists.intro [] (Exists.intro [] (Exists.intro [] (Exists.intro [] (And.intro rfl (And.intro rfl (And.intro trivial trivial))))))))
              · refine gdNT ?_
                refine condF ?_
                refine gdNT ?_
                refine gdNT ?_
                refine condF ?_
                refine gdNT ?_
                refine gdNT ?_
                refine condF ?_
                have hy := someE hF
                subst hy
                refine And.intro rfl (Exists.intro [] (Exists.intro [] (Exists.intro [] (Exists.intro [] (Exists.intro [] (And.intro rfl (And.intro rfl (And.intro trivial trivial))))))))
            · refine gdNT ?_
              refine condF ?_
              refine gdNT ?_
              refine gdNT ?_
              refine condF ?_
              refine gdNT ?_
              refine gdNT ?_
              refine condF ?_
              refine gdNT ?_
              refine gdNT ?_
              refine condF ?_
              have hy := someE hF
              subst hy
              refine And.intro rfl (Exists.intro [] (Exists.intro [] (Exists.intro [] (Exists.intro [] (Exists.intro [] (And.intro rfl (And.intro rfl (And.intro trivial trivial))))))))
          · refine gdNT ?_
            refine condF ?_
            refine gdNT ?_
            refine gdNT ?_
            refine condF ?_
            refine gdNT ?_
            refine gdNT ?_
            refine condF ?_
            refine gdNT ?_
            refine gdNT ?_
            refine condF ?_
            refine gdNT ?_
            refine gdNT ?_
            refine condF ?_
            have hy := someE hF
            subst hy
            refine And.intro rfl (Exists.intro [] (Exists.intro [] (Exists.intro [] (Exists.intro [] (Exists.intro [] (And.intro rfl (And.intro rfl (And.intro trivial trivial))))))))
theorem C3_holds : C3.Holds Tryz.prog 3 := holds_of_vc tab_ok mixed (fn := Tryz.f3) (by kernel_rfl) rfl C3 (fun x y hF => C3_vc y hF)
theorem f3_in : ∃ fn, Tryz.prog.funcs[3]? = some fn ∧ fn.body.isSome = true ∧ (fn.name == "runtime.NumGoroutine") = false := ⟨Tryz.f3, by kernel_rfl, by kernel_rfl, by kernel_rfl⟩
end Go.Proofs
