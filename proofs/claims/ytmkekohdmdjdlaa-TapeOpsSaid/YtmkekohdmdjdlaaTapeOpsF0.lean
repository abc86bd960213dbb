import Derived.Test.YtmkekohdmdjdlaaFb
set_option linter.unusedVariables false
set_option maxRecDepth 100000
set_option maxHeartbeats 8000000
namespace Go.Proofs
open Go.AM
-- carousel/shape.product
def f80_j4 (d : List Int) (v11 : Int) : Option (Sum Unit Unit) :=
  bif (decide ((rd (0 : Int) d v11) < (1 : Int))) then
    some (Sum.inr ())
  else
    bif (decide ((rd (0 : Int) d v11) > (4096 : Int))) then
      some (Sum.inr ())
    else
      some (Sum.inl ())
def f80_l3 (d : List Int) (go : (Int × Int) → Option (Sum Unit Int)) (n : Int) (v11 : Int) : Option (Sum Unit Int) :=
  bif (decide (v11 < (List.length d : Int))) then
    guardF (0 ≤ v11 ∧ v11 < (List.length d : Int)) <|
    bindF (f80_j4 d v11) fun z4 =>
    sumF z4 (fun z4a =>
      bif (decide ((IntKind.i64.wrap (n * (rd (0 : Int) d v11))) > (4096 : Int))) then
        some (Sum.inl ())
      else
        go ((IntKind.i64.wrap (n * (rd (0 : Int) d v11))), (IntKind.i64.wrap (v11 + (1 : Int))))) (fun z4b =>
      some (Sum.inl ()))
  else
    some (Sum.inr n)
def f80 (d : List Int) : Option Int :=
  bif (decide ((List.length d : Int) > (4 : Int))) then
    some (0 : Int)
  else
    bindF (loopF (fun go x => f80_l3 d go x.1 x.2) fuelN ((1 : Int), (0 : Int))) fun z3 =>
    sumF z3 (fun z3a =>
      some (0 : Int)) (fun z3b =>
      some z3b)
def C80 : Con where
  X := List Int
  Y := Int
  e := 0
  args x := [.dat (.sl (.int .i64)) x]
  hin x := []
  F x := f80 x
  ret y := [.dat (.int .i64) y]
  hout y := []
  nout := 0
theorem C80_vc (d : List Int) (y : Int) (hF : f80 d = some y) : vc Try.prog tab Try.f80.ntmps 0 (match Try.f80.body with | some c => c | none => .skip) (retK tab C80 Try.f80.results.toList y) (C80.shIn d).st := by
  unfold f80 at hF
  refine Or.inl ?_
  refine Or.inl ?_
  refine Or.inl ?_
  refine condI hF (fun hF => ?_) (fun hF => ?_)
  · refine Or.inl ?_
    have hy := someE hF
    subst hy
    refine And.intro rfl (Exists.intro [] (Exists.intro [] (Exists.intro [] (Exists.intro [] (Exists.intro [] (And.intro rfl (And.intro rfl (And.intro trivial trivial))))))))
  · refine Or.inl ?_
    refine Or.inl ?_
    refine Or.inl ?_
    obtain ⟨z3, hz3, hF⟩ := bindE hF
    refine loopI (Int × Int) (Sum Unit Int) (fun x => ⟨[(3, .dat (.int .i64) x.1), (9, .dat (.sl (.int .i64)) d), (10, .dat (.int .i64) (List.length d : Int)), (11, .dat (.int .i64) x.2)], [], 0⟩) (fun z => Sum.elim (fun za => [(1, ⟨[(2, .dat (.int .i64) (0 : Int))], [], 0⟩)]) (fun zb => [(2, ⟨[(3, .dat (.int .i64) zb)], [], 0⟩)]) z) (loopF (fun go x => f80_l3 d go x.1 x.2)) fuelN ((1 : Int), (0 : Int)) z3 (And.intro hz3 (And.intro (Exists.intro [] (Exists.intro [] (Exists.intro [] (Exists.intro [] (Exists.intro [] (And.intro rfl (And.intro rfl (And.intro rfl (And.intro rfl (And.intro rfl (And.intro trivial trivial))))))))))) (And.intro (fun _ _ h => loopZ h) (And.intro (fun m => curI (fun n => fun v11 z hF => ?_)) ?_))))
    · have hF : f80_l3 d (loopF (fun go x => f80_l3 d go x.1 x.2) m) n v11 = some z := hF
      unfold f80_l3 at hF
      refine Or.inl ?_
      refine Or.inl ?_
      refine condI hF (fun hF => ?_) (fun hF => ?_)
      · refine Or.inl ?_
        refine Or.inl ?_
        refine guardI hF (fun hF => ?_)
        obtain ⟨z4, hz4, hF⟩ := bindE hF
        refine Or.inr ⟨Sum.elim (fun z4a => [(0, ⟨[(3, .dat (.int .i64) n), (5, .dat (.int .i64) (rd (0 : Int) d v11)), (9, .dat (.sl (.int .i64)) d), (10, .dat (.int .i64) (List.length d : Int)), (11, .dat (.int .i64) v11)], [], 0⟩)]) (fun z4b => [(1, ⟨[(2, .dat (.int .i64) (0 : Int))], [], 0⟩)]) z4, ?_, ?_⟩
        · have hF := hz4
          clear hz4
          unfold f80_j4 at hF
          refine Or.inl ?_
          refine condN hF (fun hF => ?_) (fun hF => ?_)
          · refine gdYF ?_
            refine condF ?_
            refine condI hF (fun hF => ?_) (fun hF => ?_)
            · refine Or.inl ?_
              have hz := someE hF
              subst hz
              refine Exists.intro [] (Exists.intro [] (Exists.intro [] (Exists.intro [] (Exists.intro [] (And.intro rfl (And.intro rfl (And.intro trivial trivial)))))))
            · have hz := someE hF
              subst hz
              refine Exists.intro [] (Exists.intro [] (Exists.intro [] (Exists.intro [] (Exists.intro [] (And.intro rfl (And.intro rfl (And.intro rfl (And.intro rfl (And.intro rfl (And.intro rfl (And.intro trivial trivial)))))))))))
          · refine gdNF ?_
            refine condT ?_
            refine condT ?_
            refine Or.inl ?_
            have hz := someE hF
            subst hz
            refine Exists.intro [] (Exists.intro [] (Exists.intro [] (Exists.intro [] (Exists.intro [] (And.intro rfl (And.intro rfl (And.intro trivial trivial)))))))
        · rcases z4 with z4a | z4b
          · dsimp only [sumF] at hF
            refine And.intro ?_ trivial
            refine Or.inl ?_
            refine Or.inl ?_
            refine condI hF (fun hF => ?_) (fun hF => ?_)
            · refine Or.inl ?_
              have hz := someE hF
              subst hz
              refine Exists.intro [] (Exists.intro [] (Exists.intro [] (Exists.intro [] (Exists.intro [] (And.intro rfl (And.intro rfl (And.intro trivial trivial)))))))
            · refine Exists.intro ((IntKind.i64.wrap (n * (rd (0 : Int) d v11))), (IntKind.i64.wrap (v11 + (1 : Int)))) (And.intro hF (Exists.intro [] (Exists.intro [] (Exists.intro [] (Exists.intro [] (Exists.intro [] (And.intro rfl (And.intro rfl (And.intro rfl (And.intro rfl (And.intro rfl (And.intro trivial trivial))))))))))))
          · dsimp only [sumF] at hF
            refine And.intro ?_ trivial
            have hz := someE hF
            subst hz
            refine Exists.intro [] (Exists.intro [] (Exists.intro [] (Exists.intro [] (Exists.intro [] (And.intro rfl (And.intro rfl (And.intro trivial trivial)))))))
      · have hz := someE hF
        subst hz
        refine Exists.intro [] (Exists.intro [] (Exists.intro [] (Exists.intro [] (Exists.intro [] (And.intro rfl (And.intro rfl (And.intro trivial trivial)))))))
    · rcases z3 with z3a | z3b
      · dsimp only [sumF] at hF
        refine And.intro ?_ trivial
        have hy := someE hF
        subst hy
        refine And.intro rfl (Exists.intro [] (Exists.intro [] (Exists.intro [] (Exists.intro [] (Exists.intro [] (And.intro rfl (And.intro rfl (And.intro trivial trivial))))))))
      · dsimp only [sumF] at hF
        refine And.intro ?_ trivial
        refine Or.inl ?_
        have hy := someE hF
        subst hy
        refine And.intro rfl (Exists.intro [] (Exists.intro [] (Exists.intro [] (Exists.intro [] (Exists.intro [] (And.intro rfl (And.intro rfl (And.intro trivial trivial))))))))
theorem C80_holds : C80.Holds Try.prog 80 := holds_of_vc tab_ok mixed (fn := Try.f80) (by kernel_rfl) rfl C80 (fun x y hF => C80_vc x y hF)
theorem f80_in : ∃ fn, Try.prog.funcs[80]? = some fn ∧ fn.body.isSome = true ∧ (fn.name == "runtime.NumGoroutine") = false := ⟨Try.f80, by kernel_rfl, by kernel_rfl, by kernel_rfl⟩
end Go.Proofs
namespace Go.Proofs
open Go.AM
-- carousel/shape.Good
def f74 (d : List Int) : Option Bool :=
  bindF (f80 d) fun r1 =>
  some (decide (r1 > (0 : Int)))
def C74 : Con where
  X := List Int
  Y := Bool
  e := 0
  args x := [.dat (.sl (.int .i64)) x]
  hin x := []
  F x := f74 x
  ret y := [.dat .bool y]
  hout y := []
  nout := 0
theorem C74_vc (d : List Int) (y : Bool) (hF : f74 d = some y) : vc Try.prog tab Try.f74.ntmps 0 (match Try.f74.body with | some c => c | none => .skip) (retK tab C74 Try.f74.results.toList y) (C74.shIn d).st := by
  unfold f74 at hF
  refine Or.inl ?_
  refine Or.inl ?_
  obtain ⟨r1, hr1, hF⟩ := bindE hF
  refine Or.inl (And.intro f80_in (callV0 (callI C80 d r1 [] false C80_holds hr1 rfl rfl ?_)))
  refine (And.intro rfl (And.intro (fun h => nomatch h) (And.intro rfl (And.intro rfl (And.intro trivial (And.intro trivial ?_))))))
  have hy := someE hF
  subst hy
  refine And.intro rfl (Exists.intro [] (Exists.intro [] (Exists.intro [] (Exists.intro [] (Exists.intro [] (And.intro rfl (And.intro rfl (And.intro trivial trivial))))))))
theorem C74_holds : C74.Holds Try.prog 74 := holds_of_vc tab_ok mixed (fn := Try.f74) (by kernel_rfl) rfl C74 (fun x y hF => C74_vc x y hF)
theorem f74_in : ∃ fn, Try.prog.funcs[74]? = some fn ∧ fn.body.isSome = true ∧ (fn.name == "runtime.NumGoroutine") = false := ⟨Try.f74, by kernel_rfl, by kernel_rfl, by kernel_rfl⟩
end Go.Proofs
namespace Go.Proofs
open Go.AM
-- carousel/shape.Size
def f49 (d : List Int) : Option Int :=
  bindF (f80 d) fun r1 =>
  some r1
def C49 : Con where
  X := List Int
  Y := Int
  e := 0
  args x := [.dat (.sl (.int .i64)) x]
  hin x := []
  F x := f49 x
  ret y := [.dat (.int .i64) y]
  hout y := []
  nout := 0
theorem C49_vc (d : List Int) (y : Int) (hF : f49 d = some y) : vc Try.prog tab Try.f49.ntmps 0 (match Try.f49.body with | some c => c | none => .skip) (retK tab C49 Try.f49.results.toList y) (C49.shIn d).st := by
  unfold f49 at hF
  refine Or.inl ?_
  refine Or.inl ?_
  obtain ⟨r1, hr1, hF⟩ := bindE hF
  refine Or.inl (And.intro f80_in (callV0 (callI C80 d r1 [] false C80_holds hr1 rfl rfl ?_)))
  refine (And.intro rfl (And.intro (fun h => nomatch h) (And.intro rfl (And.intro rfl (And.intro trivial (And.intro trivial ?_))))))
  have hy := someE hF
  subst hy
  refine And.intro rfl (Exists.intro [] (Exists.intro [] (Exists.intro [] (Exists.intro [] (Exists.intro [] (And.intro rfl (And.intro rfl (And.intro trivial trivial))))))))
theorem C49_holds : C49.Holds Try.prog 49 := holds_of_vc tab_ok mixed (fn := Try.f49) (by kernel_rfl) rfl C49 (fun x y hF => C49_vc x y hF)
theorem f49_in : ∃ fn, Try.prog.funcs[49]? = some fn ∧ fn.body.isSome = true ∧ (fn.name == "runtime.NumGoroutine") = false := ⟨Try.f49, by kernel_rfl, by kernel_rfl, by kernel_rfl⟩
end Go.Proofs
namespace Go.Proofs
open Go.AM
-- carousel/tens.Good
def f42 (t : (List Int) × (List Int)) : Option Bool :=
  bindF (f74 t.1) fun q1_2 =>
  bif q1_2 then
    bindF (f49 t.1) fun q1_9 =>
    some ((List.length t.2 : Int) == q1_9)
  else
    some false
def C42 : Con where
  X := (List Int) × (List Int)
  Y := Bool
  e := 0
  args x := [.dat (.p (.sl (.int .i64)) (.sl (.int .i64))) x]
  hin x := []
  F x := f42 x
  ret y := [.dat .bool y]
  hout y := []
  nout := 0
theorem C42_vc (t : (List Int) × (List Int)) (y : Bool) (hF : f42 t = some y) : vc Try.prog tab Try.f42.ntmps 0 (match Try.f42.body with | some c => c | none => .skip) (retK tab C42 Try.f42.results.toList y) (C42.shIn t).st := by
  unfold f42 at hF
  refine Or.inl ?_
  refine Or.inl ?_
  refine Exists.intro (.take 0 (.take 1 (.alt 2 (.take 3 (.take 4 (.take 5 (.take 6 (.take 7 (.take 8 (.alt 9 (.take 10 (.take 11 (.take 12 .done))) .done))))))) .done))) (Exists.intro [] (Exists.intro [] (And.intro rfl ?_)))
  refine And.intro trivial ?_
  obtain ⟨q1_2, hq1_2, hF⟩ := bindE hF
  refine Or.inl (And.intro f74_in (callV0 (callI C74 t.1 q1_2 [] false C74_holds hq1_2 rfl rfl ?_)))
  refine (And.intro rfl (And.intro (fun h => nomatch h) (And.intro rfl (And.intro rfl (And.intro trivial (And.intro trivial ?_))))))
  refine condI hF (fun hF => ?_) (fun hF => ?_)
  · refine gdYT ?_
    refine gdYT ?_
    refine gdYT ?_
    refine gdYT ?_
    refine And.intro trivial ?_
    refine gdYT ?_
    obtain ⟨q1_9, hq1_9, hF⟩ := bindE hF
    refine Or.inl (And.intro f49_in (callV0 (callI C49 t.1 q1_9 [] false C49_holds hq1_9 rfl rfl ?_)))
    refine (And.intro rfl (And.intro (fun h => nomatch h) (And.intro rfl (And.intro rfl (And.intro trivial (And.intro trivial ?_))))))
    refine gdYT ?_
    refine condT ?_
    have hy := someE hF
    subst hy
    refine And.intro rfl (Exists.intro [] (Exists.intro [] (Exists.intro [] (Exists.intro [] (Exists.intro [] (And.intro rfl (And.intro rfl (And.intro trivial trivial))))))))
  · refine gdNT ?_
    refine gdNT ?_
    refine gdNT ?_
    refine gdNT ?_
    refine And.intro trivial ?_
    refine gdNT ?_
    refine gdNT ?_
    refine condF ?_
    have hy := someE hF
    subst hy
    refine And.intro rfl (Exists.intro [] (Exists.intro [] (Exists.intro [] (Exists.intro [] (Exists.intro [] (And.intro rfl (And.intro rfl (And.intro trivial trivial))))))))
theorem C42_holds : C42.Holds Try.prog 42 := holds_of_vc tab_ok mixed (fn := Try.f42) (by kernel_rfl) rfl C42 (fun x y hF => C42_vc x y hF)
theorem f42_in : ∃ fn, Try.prog.funcs[42]? = some fn ∧ fn.body.isSome = true ∧ (fn.name == "runtime.NumGoroutine") = false := ⟨Try.f42, by kernel_rfl, by kernel_rfl, by kernel_rfl⟩
end Go.Proofs
namespace Go.Proofs
open Go.AM
-- carousel/matm.matrix
def f43 (t : (List Int) × (List Int)) : Option Bool :=
  some ((List.length t.1 : Int) == (2 : Int))
def C43 : Con where
  X := (List Int) × (List Int)
  Y := Bool
  e := 0
  args x := [.dat (.p (.sl (.int .i64)) (.sl (.int .i64))) x]
  hin x := []
  F x := f43 x
  ret y := [.dat .bool y]
  hout y := []
  nout := 0
theorem C43_vc (t : (List Int) × (List Int)) (y : Bool) (hF : f43 t = some y) : vc Try.prog tab Try.f43.ntmps 0 (match Try.f43.body with | some c => c | none => .skip) (retK tab C43 Try.f43.results.toList y) (C43.shIn t).st := by
  unfold f43 at hF
  refine Or.inl ?_
  refine Or.inl ?_
  have hy := someE hF
  subst hy
  refine And.intro rfl (Exists.intro [] (Exists.intro [] (Exists.intro [] (Exists.intro [] (Exists.intro [] (And.intro rfl (And.intro rfl (And.intro trivial trivial))))))))
theorem C43_holds : C43.Holds Try.prog 43 := holds_of_vc tab_ok mixed (fn := Try.f43) (by kernel_rfl) rfl C43 (fun x y hF => C43_vc x y hF)
theorem f43_in : ∃ fn, Try.prog.funcs[43]? = some fn ∧ fn.body.isSome = true ∧ (fn.name == "runtime.NumGoroutine") = false := ⟨Try.f43, by kernel_rfl, by kernel_rfl, by kernel_rfl⟩
end Go.Proofs
namespace Go.Proofs
open Go.AM
-- slices.Clone[[]int,int]
def f75 (s : List Int) : Option (List Int) :=
  nilF s
    (some ([]))
    (guardF ((List.length ([] : List Int) + List.length s) * 8 ≤ 140737488355328) <|
     some (([] : List Int) ++ s))
def C75 : Con where
  X := List Int
  Y := List Int
  e := 0
  args x := [.dat (.sl (.int .i64)) x]
  hin x := []
  F x := f75 x
  ret y := [.raw false [(.osl 0)]]
  hout y := [(0, .arr 3 (.int .i64) y)]
  nout := 1
theorem C75_vc (s : List Int) (y : List Int) (hF : f75 s = some y) : vc Try.prog tab Try.f75.ntmps 0 (match Try.f75.body with | some c => c | none => .skip) (retK tab C75 Try.f75.results.toList y) (C75.shIn s).st := by
  unfold f75 at hF
  refine Or.inl ?_
  refine Or.inl ?_
  refine Or.inl ?_
  refine nilI hF (fun hF => ?_) (fun hF => ?_)
  · refine condT ?_
    refine Or.inl ?_
    have hy := someE hF
    subst hy
    refine And.intro rfl (Exists.intro [] (Exists.intro [] (Exists.intro [] (Exists.intro [] (Exists.intro [(0, none)] (And.intro rfl (And.intro (And.intro rfl trivial) (And.intro rfl trivial))))))))
  · refine condF ?_
    refine Or.inl ?_
    refine Or.inl ?_
    refine Or.inl ?_
    refine guardI hF (fun hF => ?_)
    have hy := someE hF
    subst hy
    refine And.intro rfl (Exists.intro [] (Exists.intro [] (Exists.intro [] (Exists.intro [] (Exists.intro [(0, some 1)] (And.intro rfl (And.intro (And.intro rfl trivial) (And.intro rfl trivial))))))))
theorem C75_holds : C75.Holds Try.prog 75 := holds_of_vc tab_ok mixed (fn := Try.f75) (by kernel_rfl) rfl C75 (fun x y hF => C75_vc x y hF)
theorem f75_in : ∃ fn, Try.prog.funcs[75]? = some fn ∧ fn.body.isSome = true ∧ (fn.name == "runtime.NumGoroutine") = false := ⟨Try.f75, by kernel_rfl, by kernel_rfl, by kernel_rfl⟩
end Go.Proofs
namespace Go.Proofs
open Go.AM
-- math/bits.Mul64
def f97 (x_ : Int) (y_ : Int) : Option (Int × Int) :=
  some ((IntKind.u64.wrap ((IntKind.u64.wrap ((IntKind.u64.wrap ((Int.fdiv x_ (2 ^ min (Int.toNat (32 : Int)) (IntKind.bits IntKind.u64))) * (Int.fdiv y_ (2 ^ min (Int.toNat (32 : Int)) (IntKind.bits IntKind.u64))))) + (Int.fdiv (IntKind.u64.wrap ((IntKind.u64.wrap ((Int.fdiv x_ (2 ^ min (Int.toNat (32 : Int)) (IntKind.bits IntKind.u64))) * (bitsOf IntKind.u64 (fun p q => p &&& q) y_ (4294967295 : Int)))) + (Int.fdiv (IntKind.u64.wrap ((bitsOf IntKind.u64 (fun p q => p &&& q) x_ (4294967295 : Int)) * (bitsOf IntKind.u64 (fun p q => p &&& q) y_ (4294967295 : Int)))) (2 ^ min (Int.toNat (32 : Int)) (IntKind.bits IntKind.u64))))) (2 ^ min (Int.toNat (32 : Int)) (IntKind.bits IntKind.u64))))) + (Int.fdiv (IntKind.u64.wrap ((bitsOf IntKind.u64 (fun p q => p &&& q) (IntKind.u64.wrap ((IntKind.u64.wrap ((Int.fdiv x_ (2 ^ min (Int.toNat (32 : Int)) (IntKind.bits IntKind.u64))) * (bitsOf IntKind.u64 (fun p q => p &&& q) y_ (4294967295 : Int)))) + (Int.fdiv (IntKind.u64.wrap ((bitsOf IntKind.u64 (fun p q => p &&& q) x_ (4294967295 : Int)) * (bitsOf IntKind.u64 (fun p q => p &&& q) y_ (4294967295 : Int)))) (2 ^ min (Int.toNat (32 : Int)) (IntKind.bits IntKind.u64))))) (4294967295 : Int)) + (IntKind.u64.wrap ((bitsOf IntKind.u64 (fun p q => p &&& q) x_ (4294967295 : Int)) * (Int.fdiv y_ (2 ^ min (Int.toNat (32 : Int)) (IntKind.bits IntKind.u64))))))) (2 ^ min (Int.toNat (32 : Int)) (IntKind.bits IntKind.u64))))), (IntKind.u64.wrap (x_ * y_)))
def C97 : Con where
  X := Int × Int
  Y := Int × Int
  e := 0
  args x := [.dat (.int .u64) x.1, .dat (.int .u64) x.2]
  hin x := []
  F x := f97 x.1 x.2
  ret y := [.dat (.int .u64) y.1, .dat (.int .u64) y.2]
  hout y := []
  nout := 0
theorem C97_vc (x_ : Int) (y_ : Int) (y : Int × Int) (hF : f97 x_ y_ = some y) : vc Try.prog tab Try.f97.ntmps 0 (match Try.f97.body with | some c => c | none => .skip) (retK tab C97 Try.f97.results.toList y) (C97.shIn (x_, y_)).st := by
  unfold f97 at hF
  refine Or.inl ?_
  refine Or.inl ?_
  refine Or.inl ?_
  refine And.intro (by decide) ?_
  refine Or.inl ?_
  refine Or.inl ?_
  refine And.intro (by decide) ?_
  refine Or.inl ?_
  refine Or.inl ?_
  refine And.intro (by decide) ?_
  refine Or.inl ?_
  refine Or.inl ?_
  refine And.intro (by decide) ?_
  refine Or.inl ?_
  refine Or.inl ?_
  refine And.intro (by decide) ?_
  refine Or.inl ?_
  have hy := someE hF
  subst hy
  refine And.intro rfl (Exists.intro [] (Exists.intro [] (Exists.intro [] (Exists.intro [] (Exists.intro [] (And.intro rfl (And.intro rfl (And.intro rfl (And.intro trivial trivial)))))))))
theorem C97_holds : C97.Holds Try.prog 97 := holds_of_vc tab_ok mixed (fn := Try.f97) (by kernel_rfl) rfl C97 (fun x y hF => C97_vc x.1 x.2 y hF)
theorem f97_in : ∃ fn, Try.prog.funcs[97]? = some fn ∧ fn.body.isSome = true ∧ (fn.name == "runtime.NumGoroutine") = false := ⟨Try.f97, by kernel_rfl, by kernel_rfl, by kernel_rfl⟩
end Go.Proofs
namespace Go.Proofs
open Go.AM
-- math/bits.Mul
def f101 (x_ : Int) (y_ : Int) : Option (Int × Int) :=
  bindF (f97 x_ y_) fun r1 =>
  some (r1.1, r1.2)
def C101 : Con where
  X := Int × Int
  Y := Int × Int
  e := 0
  args x := [.dat (.int .u64) x.1, .dat (.int .u64) x.2]
  hin x := []
  F x := f101 x.1 x.2
  ret y := [.dat (.int .u64) y.1, .dat (.int .u64) y.2]
  hout y := []
  nout := 0
theorem C101_vc (x_ : Int) (y_ : Int) (y : Int × Int) (hF : f101 x_ y_ = some y) : vc Try.prog tab Try.f101.ntmps 0 (match Try.f101.body with | some c => c | none => .skip) (retK tab C101 Try.f101.results.toList y) (C101.shIn (x_, y_)).st := by
  unfold f101 at hF
  refine Or.inl ?_
  refine Or.inl ?_
  refine condF ?_
  refine Or.inl ?_
  obtain ⟨r1, hr1, hF⟩ := bindE hF
  refine Or.inl (And.intro f97_in (callV0 (callI C97 (x_, y_) r1 [] false C97_holds hr1 rfl rfl ?_)))
  refine (And.intro rfl (And.intro rfl (And.intro (fun h => nomatch h) (And.intro rfl (And.intro rfl (And.intro trivial (And.intro trivial ?_)))))))
  refine Or.inl ?_
  have hy := someE hF
  subst hy
  refine And.intro rfl (Exists.intro [] (Exists.intro [] (Exists.intro [] (Exists.intro [] (Exists.intro [] (And.intro rfl (And.intro rfl (And.intro rfl (And.intro trivial trivial)))))))))
theorem C101_holds : C101.Holds Try.prog 101 := holds_of_vc tab_ok mixed (fn := Try.f101) (by kernel_rfl) rfl C101 (fun x y hF => C101_vc x.1 x.2 y hF)
theorem f101_in : ∃ fn, Try.prog.funcs[101]? = some fn ∧ fn.body.isSome = true ∧ (fn.name == "runtime.NumGoroutine") = false := ⟨Try.f101, by kernel_rfl, by kernel_rfl, by kernel_rfl⟩
end Go.Proofs
namespace Go.Proofs
open Go.AM
-- slices.Repeat[[]carousel/api.Fix,carousel/api.Fix]
def f76_j1 (r1 : Int × Int) : Option Unit :=
  bif (decide (r1.1 > (0 : Int))) then
    none
  else
    bif (decide (r1.2 > (9223372036854775807 : Int))) then
      none
    else
      some ()
def f76_l2 (go : (Int × (List Int)) → Option (List Int)) (n : Int) (l0 : List Int) : Option (List Int) :=
  bif (decide (n < (List.length l0 : Int))) then
    guardF (0 ≤ n ∧ n ≤ (List.length l0 : Int)) <|
    guardF (0 ≤ n ∧ n ≤ (List.length l0 : Int)) <|
    go ((IntKind.i64.wrap (n + (List.length (List.take (Int.toNat (List.length l0 : Int) - Int.toNat n) (List.drop (Int.toNat (0 : Int)) (List.take (Int.toNat n) l0))) : Int))), (over l0 n (List.take (Int.toNat (List.length l0 : Int) - Int.toNat n) (List.drop (Int.toNat (0 : Int)) (List.take (Int.toNat n) l0)))))
  else
    some l0
def f76 (x_ : List Int) (count : Int) : Option (List Int) :=
  bif (decide (count < (0 : Int))) then
    none
  else
    bindF (f101 (IntKind.u64.wrap (List.length x_ : Int)) (IntKind.u64.wrap count)) fun r1 =>
    bindF (f76_j1 r1) fun z2 =>
    guardF (0 ≤ (IntKind.i64.wrap r1.2) ∧ (IntKind.i64.wrap r1.2) ≤ (IntKind.i64.wrap r1.2) ∧ Int.toNat (IntKind.i64.wrap r1.2) * 8 ≤ 140737488355328) <|
    bindF (loopF (fun go x => f76_l2 go x.1 x.2) fuelN ((List.length (List.take (Int.toNat (List.length (List.replicate (Int.toNat (IntKind.i64.wrap r1.2)) (0 : Int)) : Int) - Int.toNat (0 : Int)) x_) : Int), (over (List.replicate (Int.toNat (IntKind.i64.wrap r1.2)) (0 : Int)) (0 : Int) (List.take (Int.toNat (List.length (List.replicate (Int.toNat (IntKind.i64.wrap r1.2)) (0 : Int)) : Int) - Int.toNat (0 : Int)) x_)))) fun z3 =>
    some z3
def C76 : Con where
  X := (List Int) × Int
  Y := List Int
  e := 0
  args x := [.dat (.sl (.int .i64)) x.1, .dat (.int .i64) x.2]
  hin x := []
  F x := f76 x.1 x.2
  ret y := [.raw false [(.osl 0)]]
  hout y := [(0, .arr 24 (.int .i64) y)]
  nout := 1
theorem C76_vc (x_ : List Int) (count : Int) (y : List Int) (hF : f76 x_ count = some y) : vc Try.prog tab Try.f76.ntmps 0 (match Try.f76.body with | some c => c | none => .skip) (retK tab C76 Try.f76.results.toList y) (C76.shIn (x_, count)).st := by
  unfold f76 at hF
  refine Or.inl ?_
  refine Or.inl ?_
  refine Or.inl ?_
  refine condI hF (fun hF => ?_) (fun hF => ?_)
  · exact nomatch hF
  · refine Or.inl ?_
    obtain ⟨r1, hr1, hF⟩ := bindE hF
    refine Or.inl (And.intro f101_in (callV0 (callI C101 ((IntKind.u64.wrap (List.length x_ : Int)), (IntKind.u64.wrap count)) r1 [] false C101_holds hr1 rfl rfl ?_)))
    refine (And.intro rfl (And.intro rfl (And.intro (fun h => nomatch h) (And.intro rfl (And.intro rfl (And.intro trivial (And.intro trivial ?_)))))))
    obtain ⟨z2, hz2, hF⟩ := bindE hF
    refine Or.inr ⟨[(0, ⟨[(0, .dat (.sl (.int .i64)) x_), (6, .dat (.int .u64) r1.2)], [], 0⟩)], ?_, ?_⟩
    · have hF := hz2
      clear hz2
      unfold f76_j1 at hF
      refine Or.inl ?_
      refine condN hF (fun hF => ?_) (fun hF => ?_)
      · refine gdYF ?_
        refine condF ?_
        refine condI hF (fun hF => ?_) (fun hF => ?_)
        · exact nomatch hF
        · have hz := someE hF
          subst hz
          refine Exists.intro [] (Exists.intro [] (Exists.intro [] (Exists.intro [] (Exists.intro [] (And.intro rfl (And.intro rfl (And.intro rfl (And.intro trivial trivial))))))))
      · refine gdNF ?_
        refine condT ?_
        refine condT ?_
        exact nomatch hF
    · refine And.intro ?_ trivial
      refine Or.inl ?_
      refine guardI hF (fun hF => ?_)
      refine Or.inl ?_
      refine Or.inl ?_
      obtain ⟨z3, hz3, hF⟩ := bindE hF
      refine loopI (Int × (List Int)) (List Int) (fun x => ⟨[(7, .raw false [(.osl 0)]), (8, .dat (.int .i64) x.1)], [(0, .arr 24 (.int .i64) x.2)], 1⟩) (fun z => [(2, ⟨[(7, .raw false [(.osl 0)])], [(0, .arr 24 (.int .i64) z)], 1⟩)]) (loopF (fun go x => f76_l2 go x.1 x.2)) fuelN ((List.length (List.take (Int.toNat (List.length (List.replicate (Int.toNat (IntKind.i64.wrap r1.2)) (0 : Int)) : Int) - Int.toNat (0 : Int)) x_) : Int), (over (List.replicate (Int.toNat (IntKind.i64.wrap r1.2)) (0 : Int)) (0 : Int) (List.take (Int.toNat (List.length (List.replicate (Int.toNat (IntKind.i64.wrap r1.2)) (0 : Int)) : Int) - Int.toNat (0 : Int)) x_))) z3 (And.intro hz3 (And.intro (Exists.intro [] (Exists.intro [] (Exists.intro [] (Exists.intro [] (Exists.intro [(0, some 0)] (And.intro rfl (And.intro rfl (And.intro (And.intro rfl trivial) (And.intro rfl trivial))))))))) (And.intro (fun _ _ h => loopZ h) (And.intro (fun m => curI (fun n => fun l0 z hF => ?_)) ?_))))
      · have hF : f76_l2 (loopF (fun go x => f76_l2 go x.1 x.2) m) n l0 = some z := hF
        unfold f76_l2 at hF
        refine Or.inl ?_
        refine Or.inl ?_
        refine condI hF (fun hF => ?_) (fun hF => ?_)
        · refine Exists.intro (.take 0 (.take 1 (.take 2 (.take 3 (.take 4 (.take 5 (.take 6 (.alt 7 (.take 8 (.take 9 .done)) .done)))))))) (Exists.intro [] (Exists.intro [] (And.intro rfl ?_)))
          refine guardI hF (fun hF => ?_)
          refine guardI hF (fun hF => ?_)
          refine And.intro trivial ?_
          refine Exists.intro ((IntKind.i64.wrap (n + (List.length (List.take (Int.toNat (List.length l0 : Int) - Int.toNat n) (List.drop (Int.toNat (0 : Int)) (List.take (Int.toNat n) l0))) : Int))), (over l0 n (List.take (Int.toNat (List.length l0 : Int) - Int.toNat n) (List.drop (Int.toNat (0 : Int)) (List.take (Int.toNat n) l0))))) (And.intro hF (Exists.intro [] (Exists.intro [] (Exists.intro [] (Exists.intro [] (Exists.intro [(0, some 0)] (And.intro rfl (And.intro rfl (And.intro (And.intro rfl trivial) (And.intro rfl trivial))))))))))
        · have hz := someE hF
          subst hz
          refine Exists.intro [] (Exists.intro [] (Exists.intro [] (Exists.intro [] (Exists.intro [(0, some 0)] (And.intro rfl (And.intro (And.intro rfl trivial) (And.intro rfl trivial)))))))
      · refine And.intro ?_ trivial
        refine Or.inl ?_
        have hy := someE hF
        subst hy
        refine And.intro rfl (Exists.intro [] (Exists.intro [] (Exists.intro [] (Exists.intro [] (Exists.intro [(0, some 0)] (And.intro rfl (And.intro (And.intro rfl trivial) (And.intro rfl trivial))))))))
theorem C76_holds : C76.Holds Try.prog 76 := holds_of_vc tab_ok mixed (fn := Try.f76) (by kernel_rfl) rfl C76 (fun x y hF => C76_vc x.1 x.2 y hF)
theorem f76_in : ∃ fn, Try.prog.funcs[76]? = some fn ∧ fn.body.isSome = true ∧ (fn.name == "runtime.NumGoroutine") = false := ⟨Try.f76, by kernel_rfl, by kernel_rfl, by kernel_rfl⟩
end Go.Proofs
namespace Go.Proofs
open Go.AM
-- carousel/tens.New
def f44 (d : List Int) (v : Int) : Option (Int × (List Int) × (List Int)) :=
  bindF (f74 d) fun r1 =>
  bif (!r1) then
    some ((1 : Int), [], [])
  else
    bindF (f75 d) fun r2 =>
    bindF (f49 d) fun r3 =>
    bindF (f76 ([v]) r3) fun r4 =>
    some ((0 : Int), r2, r4)
def C44 : Con where
  X := (List Int) × Int
  Y := Int × (List Int) × (List Int)
  e := 0
  args x := [.dat (.sl (.int .i64)) x.1, .dat (.int .i64) x.2]
  hin x := []
  F x := f44 x.1 x.2
  ret y := [.raw true [(.osl 0), (.osl 1)], .dat (.int .i64) y.1]
  hout y := [(0, .arr 3 (.int .i64) y.2.1), (1, .arr 24 (.int .i64) y.2.2)]
  nout := 2
theorem C44_vc (d : List Int) (v : Int) (y : Int × (List Int) × (List Int)) (hF : f44 d v = some y) : vc Try.prog tab Try.f44.ntmps 0 (match Try.f44.body with | some c => c | none => .skip) (retK tab C44 Try.f44.results.toList y) (C44.shIn (d, v)).st := by
  unfold f44 at hF
  refine Or.inl ?_
  refine Or.inl ?_
  refine Or.inl ?_
  obtain ⟨r1, hr1, hF⟩ := bindE hF
  refine Or.inl (And.intro f74_in (callV0 (callI C74 d r1 [] false C74_holds hr1 rfl rfl ?_)))
  refine (And.intro rfl (And.intro (fun h => nomatch h) (And.intro rfl (And.intro rfl (And.intro trivial (And.intro trivial ?_))))))
  refine condI hF (fun hF => ?_) (fun hF => ?_)
  · refine Or.inl ?_
    refine Or.inl ?_
    have hy := someE hF
    subst hy
    refine And.intro rfl (Exists.intro [] (Exists.intro [] (Exists.intro [] (Exists.intro [] (Exists.intro [(0, none), (1, none)] (And.intro rfl (And.intro rfl (And.intro (And.intro rfl trivial) (And.intro rfl (And.intro rfl trivial))))))))))
  · refine Or.inl ?_
    obtain ⟨r2, hr2, hF⟩ := bindE hF
    refine Or.inl (And.intro f75_in (callV0 (callI C75 d r2 [] false C75_holds hr2 rfl rfl ?_)))
    refine (And.intro rfl (And.intro (fun h => nomatch h) (And.intro rfl (And.intro rfl (And.intro trivial (And.intro trivial ?_))))))
    refine Or.inl ?_
    obtain ⟨r3, hr3, hF⟩ := bindE hF
    refine Or.inl (And.intro f49_in (callV0 (callI C49 d r3 [] false C49_holds hr3 rfl rfl ?_)))
    refine (And.intro rfl (And.intro (fun h => nomatch h) (And.intro rfl (And.intro rfl (And.intro trivial (And.intro trivial ?_))))))
    obtain ⟨r4, hr4, hF⟩ := bindE hF
    refine Or.inl (And.intro f76_in (callV0 (callI C76 ([v], r3) r4 [] true C76_holds hr4 rfl rfl ?_)))
    refine (And.intro rfl (And.intro rfl (And.intro (fun _ => rfl) (And.intro rfl (And.intro rfl (And.intro trivial (And.intro trivial ?_)))))))
    refine Or.inl ?_
    have hy := someE hF
    subst hy
    refine And.intro rfl (Exists.intro [] (Exists.intro [] (Exists.intro [] (Exists.intro [] (Exists.intro [(0, some 1), (1, some 3)] (And.intro rfl (And.intro rfl (And.intro (And.intro rfl trivial) (And.intro rfl (And.intro rfl trivial))))))))))
theorem C44_holds : C44.Holds Try.prog 44 := holds_of_vc tab_ok mixed (fn := Try.f44) (by kernel_rfl) rfl C44 (fun x y hF => C44_vc x.1 x.2 y hF)
theorem f44_in : ∃ fn, Try.prog.funcs[44]? = some fn ∧ fn.body.isSome = true ∧ (fn.name == "runtime.NumGoroutine") = false := ⟨Try.f44, by kernel_rfl, by kernel_rfl, by kernel_rfl⟩
end Go.Proofs
namespace Go.Proofs
open Go.AM
-- slices.Index[[]int,int]
def f113_l1 (s : List Int) (v : Int) (go : Int → Option (Sum Int Unit)) (v8 : Int) : Option (Sum Int Unit) :=
  bif (decide (v8 < (List.length s : Int))) then
    guardF (0 ≤ v8 ∧ v8 < (List.length s : Int)) <|
    bif (v == (rd (0 : Int) s v8)) then
      some (Sum.inl v8)
    else
      go (IntKind.i64.wrap (v8 + (1 : Int)))
  else
    some (Sum.inr ())
def f113 (s : List Int) (v : Int) : Option Int :=
  bindF (loopF (fun go x => f113_l1 s v go x) fuelN (0 : Int)) fun z1 =>
  sumF z1 (fun z1a =>
    some z1a) (fun z1b =>
    some (-1 : Int))
def C113 : Con where
  X := (List Int) × Int
  Y := Int
  e := 0
  args x := [.dat (.sl (.int .i64)) x.1, .dat (.int .i64) x.2]
  hin x := []
  F x := f113 x.1 x.2
  ret y := [.dat (.int .i64) y]
  hout y := []
  nout := 0
theorem C113_vc (s : List Int) (v : Int) (y : Int) (hF : f113 s v = some y) : vc Try.prog tab Try.f113.ntmps 0 (match Try.f113.body with | some c => c | none => .skip) (retK tab C113 Try.f113.results.toList y) (C113.shIn (s, v)).st := by
  unfold f113 at hF
  refine Or.inl ?_
  refine Or.inl ?_
  refine Or.inl ?_
  obtain ⟨z1, hz1, hF⟩ := bindE hF
  refine loopI Int (Sum Int Unit) (fun x => ⟨[(0, .dat (.sl (.int .i64)) s), (1, .dat (.int .i64) v), (7, .dat (.int .i64) (List.length s : Int)), (8, .dat (.int .i64) x)], [], 0⟩) (fun z => Sum.elim (fun za => [(1, ⟨[(4, .dat (.int .i64) za)], [], 0⟩)]) (fun zb => [(2, ⟨[], [], 0⟩)]) z) (loopF (fun go x => f113_l1 s v go x)) fuelN (0 : Int) z1 (And.intro hz1 (And.intro (Exists.intro [] (Exists.intro [] (Exists.intro [] (Exists.intro [] (Exists.intro [] (And.intro rfl (And.intro rfl (And.intro rfl (And.intro rfl (And.intro rfl (And.intro trivial trivial))))))))))) (And.intro (fun _ _ h => loopZ h) (And.intro (fun m => fun v8 z hF => ?_) ?_))))
  · have hF : f113_l1 s v (loopF (fun go x => f113_l1 s v go x) m) v8 = some z := hF
    unfold f113_l1 at hF
    refine Or.inl ?_
    refine Or.inl ?_
    refine condI hF (fun hF => ?_) (fun hF => ?_)
    · refine Or.inl ?_
      refine Or.inl ?_
      refine Or.inl ?_
      refine guardI hF (fun hF => ?_)
      refine condI hF (fun hF => ?_) (fun hF => ?_)
      · refine Or.inl ?_
        have hz := someE hF
        subst hz
        refine Exists.intro [] (Exists.intro [] (Exists.intro [] (Exists.intro [] (Exists.intro [] (And.intro rfl (And.intro rfl (And.intro trivial trivial)))))))
      · refine Exists.intro (IntKind.i64.wrap (v8 + (1 : Int))) (And.intro hF (Exists.intro [] (Exists.intro [] (Exists.intro [] (Exists.intro [] (Exists.intro [] (And.intro rfl (And.intro rfl (And.intro rfl (And.intro rfl (And.intro rfl (And.intro trivial trivial))))))))))))
    · have hz := someE hF
      subst hz
      refine Exists.intro [] (Exists.intro [] (Exists.intro [] (Exists.intro [] (Exists.intro [] (And.intro rfl (And.intro trivial trivial))))))
  · rcases z1 with z1a | z1b
    · dsimp only [sumF] at hF
      refine And.intro ?_ trivial
      have hy := someE hF
      subst hy
      refine And.intro rfl (Exists.intro [] (Exists.intro [] (Exists.intro [] (Exists.intro [] (Exists.intro [] (And.intro rfl (And.intro rfl (And.intro trivial trivial))))))))
    · dsimp only [sumF] at hF
      refine And.intro ?_ trivial
      refine Or.inl ?_
      have hy := someE hF
      subst hy
      refine And.intro rfl (Exists.intro [] (Exists.intro [] (Exists.intro [] (Exists.intro [] (Exists.intro [] (And.intro rfl (And.intro rfl (And.intro trivial trivial))))))))
theorem C113_holds : C113.Holds Try.prog 113 := holds_of_vc tab_ok mixed (fn := Try.f113) (by kernel_rfl) rfl C113 (fun x y hF => C113_vc x.1 x.2 y hF)
theorem f113_in : ∃ fn, Try.prog.funcs[113]? = some fn ∧ fn.body.isSome = true ∧ (fn.name == "runtime.NumGoroutine") = false := ⟨Try.f113, by kernel_rfl, by kernel_rfl, by kernel_rfl⟩
end Go.Proofs
namespace Go.Proofs
open Go.AM
-- slices.Contains[[]int,int]
def f102 (s : List Int) (v : Int) : Option Bool :=
  bindF (f113 s v) fun r1 =>
  some (decide (r1 ≥ (0 : Int)))
def C102 : Con where
  X := (List Int) × Int
  Y := Bool
  e := 0
  args x := [.dat (.sl (.int .i64)) x.1, .dat (.int .i64) x.2]
  hin x := []
  F x := f102 x.1 x.2
  ret y := [.dat .bool y]
  hout y := []
  nout := 0
theorem C102_vc (s : List Int) (v : Int) (y : Bool) (hF : f102 s v = some y) : vc Try.prog tab Try.f102.ntmps 0 (match Try.f102.body with | some c => c | none => .skip) (retK tab C102 Try.f102.results.toList y) (C102.shIn (s, v)).st := by
  unfold f102 at hF
  refine Or.inl ?_
  refine Or.inl ?_
  obtain ⟨r1, hr1, hF⟩ := bindE hF
  refine Or.inl (And.intro f113_in (callV0 (callI C113 (s, v) r1 [] false C113_holds hr1 rfl rfl ?_)))
  refine (And.intro rfl (And.intro rfl (And.intro (fun h => nomatch h) (And.intro rfl (And.intro rfl (And.intro trivial (And.intro trivial ?_)))))))
  have hy := someE hF
  subst hy
  refine And.intro rfl (Exists.intro [] (Exists.intro [] (Exists.intro [] (Exists.intro [] (Exists.intro [] (And.intro rfl (And.intro rfl (And.intro trivial trivial))))))))
theorem C102_holds : C102.Holds Try.prog 102 := holds_of_vc tab_ok mixed (fn := Try.f102) (by kernel_rfl) rfl C102 (fun x y hF => C102_vc x.1 x.2 y hF)
theorem f102_in : ∃ fn, Try.prog.funcs[102]? = some fn ∧ fn.body.isSome = true ∧ (fn.name == "runtime.NumGoroutine") = false := ⟨Try.f102, by kernel_rfl, by kernel_rfl, by kernel_rfl⟩
end Go.Proofs
namespace Go.Proofs
open Go.AM
-- carousel/tens.permutes
def f77_l1 (order : List Int) (n : Int) (go : Int → Option (Sum Unit Unit)) (v11 : Int) : Option (Sum Unit Unit) :=
  bif (decide (v11 < n)) then
    bindF (f102 order v11) fun r4 =>
    bif (!r4) then
      some (Sum.inl ())
    else
      go (IntKind.i64.wrap (v11 + (1 : Int)))
  else
    some (Sum.inr ())
def f77 (order : List Int) (n : Int) : Option Bool :=
  bif ((List.length order : Int) != n) then
    some false
  else
    bindF (loopF (fun go x => f77_l1 order n go x) fuelN (0 : Int)) fun z3 =>
    sumF z3 (fun z3a =>
      some false) (fun z3b =>
      some true)
def C77 : Con where
  X := (List Int) × Int
  Y := Bool
  e := 0
  args x := [.dat (.sl (.int .i64)) x.1, .dat (.int .i64) x.2]
  hin x := []
  F x := f77 x.1 x.2
  ret y := [.dat .bool y]
  hout y := []
  nout := 0
theorem C77_vc (order : List Int) (n : Int) (y : Bool) (hF : f77 order n = some y) : vc Try.prog tab Try.f77.ntmps 0 (match Try.f77.body with | some c => c | none => .skip) (retK tab C77 Try.f77.results.toList y) (C77.shIn (order, n)).st := by
  unfold f77 at hF
  refine Or.inl ?_
  refine Or.inl ?_
  refine Or.inl ?_
  refine condI hF (fun hF => ?_) (fun hF => ?_)
  · refine Or.inl ?_
    have hy := someE hF
    subst hy
    refine And.intro rfl (Exists.intro [] (Exists.intro [] (Exists.intro [] (Exists.intro [] (Exists.intro [] (And.intro rfl (And.intro rfl (And.intro trivial trivial))))))))
  · refine Or.inl ?_
    refine Or.inl ?_
    obtain ⟨z3, hz3, hF⟩ := bindE hF
    refine loopI Int (Sum Unit Unit) (fun x => ⟨[(0, .dat (.sl (.int .i64)) order), (10, .dat (.int .i64) n), (11, .dat (.int .i64) x)], [], 0⟩) (fun z => Sum.elim (fun za => [(1, ⟨[(4, .dat .bool false)], [], 0⟩)]) (fun zb => [(2, ⟨[], [], 0⟩)]) z) (loopF (fun go x => f77_l1 order n go x)) fuelN (0 : Int) z3 (And.intro hz3 (And.intro (Exists.intro [] (Exists.intro [] (Exists.intro [] (Exists.intro [] (Exists.intro [] (And.intro rfl (And.intro rfl (And.intro rfl (And.intro rfl (And.intro trivial trivial)))))))))) (And.intro (fun _ _ h => loopZ h) (And.intro (fun m => fun v11 z hF => ?_) ?_))))
    · have hF : f77_l1 order n (loopF (fun go x => f77_l1 order n go x) m) v11 = some z := hF
      unfold f77_l1 at hF
      refine Or.inl ?_
      refine Or.inl ?_
      refine condI hF (fun hF => ?_) (fun hF => ?_)
      · refine Or.inl ?_
        refine Or.inl ?_
        refine Or.inl ?_
        obtain ⟨r4, hr4, hF⟩ := bindE hF
        refine Or.inl (And.intro f102_in (callV0 (callI C102 (order, v11) r4 [] false C102_holds hr4 rfl rfl ?_)))
        refine (And.intro rfl (And.intro rfl (And.intro (fun h => nomatch h) (And.intro rfl (And.intro rfl (And.intro trivial (And.intro trivial ?_)))))))
        refine condI hF (fun hF => ?_) (fun hF => ?_)
        · refine Or.inl ?_
          have hz := someE hF
          subst hz
          refine Exists.intro [] (Exists.intro [] (Exists.intro [] (Exists.intro [] (Exists.intro [] (And.intro rfl (And.intro rfl (And.intro trivial trivial)))))))
        · refine Exists.intro (IntKind.i64.wrap (v11 + (1 : Int))) (And.intro hF (Exists.intro [] (Exists.intro [] (Exists.intro [] (Exists.intro [] (Exists.intro [] (And.intro rfl (And.intro rfl (And.intro rfl (And.intro rfl (And.intro trivial trivial)))))))))))
      · have hz := someE hF
        subst hz
        refine Exists.intro [] (Exists.intro [] (Exists.intro [] (Exists.intro [] (Exists.intro [] (And.intro rfl (And.intro trivial trivial))))))
    · rcases z3 with z3a | z3b
      · dsimp only [sumF] at hF
        refine And.intro ?_ trivial
        have hy := someE hF
        subst hy
        refine And.intro rfl (Exists.intro [] (Exists.intro [] (Exists.intro [] (Exists.intro [] (Exists.intro [] (And.intro rfl (And.intro rfl (And.intro trivial trivial))))))))
      · dsimp only [sumF] at hF
        refine And.intro ?_ trivial
        refine Or.inl ?_
        have hy := someE hF
        subst hy
        refine And.intro rfl (Exists.intro [] (Exists.intro [] (Exists.intro [] (Exists.intro [] (Exists.intro [] (And.intro rfl (And.intro rfl (And.intro trivial trivial))))))))
theorem C77_holds : C77.Holds Try.prog 77 := holds_of_vc tab_ok mixed (fn := Try.f77) (by kernel_rfl) rfl C77 (fun x y hF => C77_vc x.1 x.2 y hF)
theorem f77_in : ∃ fn, Try.prog.funcs[77]? = some fn ∧ fn.body.isSome = true ∧ (fn.name == "runtime.NumGoroutine") = false := ⟨Try.f77, by kernel_rfl, by kernel_rfl, by kernel_rfl⟩
end Go.Proofs
namespace Go.Proofs
open Go.AM
-- carousel/shape.Place
def f78_j1 (d : List Int) (at_ : Int) : Option (Sum Unit Unit) :=
  bif (decide (at_ < (0 : Int))) then
    some (Sum.inr ())
  else
    bindF (f49 d) fun r3 =>
    bif (decide (at_ ≥ r3)) then
      some (Sum.inr ())
    else
      some (Sum.inl ())
def f78_l2 (d : List Int) (go : (Int × Int × (List Int)) → Option (List Int)) (at__2 : Int) (i : Int) (l0 : List Int) : Option (List Int) :=
  bif (decide (i ≥ (0 : Int))) then
    guardF (0 ≤ i ∧ i < (List.length d : Int)) <|
    guardF ((rd (0 : Int) d i) ≠ 0) <|
    guardF (0 ≤ i ∧ i < (List.length l0 : Int)) <|
    guardF (0 ≤ i ∧ i < (List.length d : Int)) <|
    guardF ((rd (0 : Int) d i) ≠ 0) <|
    go ((IntKind.i64.wrap (Int.tdiv at__2 (rd (0 : Int) d i))), (IntKind.i64.wrap (i - (1 : Int))), (List.set l0 (Int.toNat i) (Int.tmod at__2 (rd (0 : Int) d i))))
  else
    some l0
def f78 (d : List Int) (at_ : Int) : Option (Bool × (List Int)) :=
  bindF (f78_j1 d at_) fun z2 =>
  sumF z2 (fun z2a =>
    guardF (0 ≤ (List.length d : Int) ∧ (List.length d : Int) ≤ (List.length d : Int) ∧ Int.toNat (List.length d : Int) * 8 ≤ 140737488355328) <|
    bindF (loopF (fun go x => f78_l2 d go x.1 x.2.1 x.2.2) fuelN (at_, (IntKind.i64.wrap ((List.length d : Int) - (1 : Int))), (List.replicate (Int.toNat (List.length d : Int)) (0 : Int)))) fun z4 =>
    some (true, z4)) (fun z2b =>
    some (false, []))
def C78 : Con where
  X := (List Int) × Int
  Y := Bool × (List Int)
  e := 0
  args x := [.dat (.sl (.int .i64)) x.1, .dat (.int .i64) x.2]
  hin x := []
  F x := f78 x.1 x.2
  ret y := [.raw false [(.osl 0)], .dat .bool y.1]
  hout y := [(0, .arr 3 (.int .i64) y.2)]
  nout := 1
theorem C78_vc (d : List Int) (at_ : Int) (y : Bool × (List Int)) (hF : f78 d at_ = some y) : vc Try.prog tab Try.f78.ntmps 0 (match Try.f78.body with | some c => c | none => .skip) (retK tab C78 Try.f78.results.toList y) (C78.shIn (d, at_)).st := by
  unfold f78 at hF
  refine Or.inl ?_
  obtain ⟨z2, hz2, hF⟩ := bindE hF
  refine Or.inr ⟨Sum.elim (fun z2a => [(0, ⟨[(0, .dat (.sl (.int .i64)) d), (1, .dat (.int .i64) at_)], [], 0⟩)]) (fun z2b => [(1, ⟨[(4, .raw false [(.c (.slice none 0 0))]), (5, .dat .bool false)], [], 0⟩)]) z2, ?_, ?_⟩
  · have hF := hz2
    clear hz2
    unfold f78_j1 at hF
    refine Or.inl ?_
    refine condN hF (fun hF => ?_) (fun hF => ?_)
    · refine gdYF ?_
      refine gdYF ?_
      obtain ⟨r3, hr3, hF⟩ := bindE hF
      refine Or.inl (And.intro f49_in (callV0 (callI C49 d r3 [] false C49_holds hr3 rfl rfl ?_)))
      refine (And.intro rfl (And.intro (fun h => nomatch h) (And.intro rfl (And.intro rfl (And.intro trivial (And.intro trivial ?_))))))
      refine gdYF ?_
      refine condF ?_
      refine condI hF (fun hF => ?_) (fun hF => ?_)
      · refine Or.inl ?_
        have hz := someE hF
        subst hz
        refine Exists.intro [] (Exists.intro [] (Exists.intro [] (Exists.intro [] (Exists.intro [] (And.intro rfl (And.intro rfl (And.intro (And.intro rfl trivial) trivial)))))))
      · have hz := someE hF
        subst hz
        refine Exists.intro [] (Exists.intro [] (Exists.intro [] (Exists.intro [] (Exists.intro [] (And.intro rfl (And.intro rfl (And.intro rfl (And.intro trivial trivial))))))))
    · refine gdNF ?_
      refine gdNF ?_
      refine gdNF ?_
      refine condT ?_
      refine condT ?_
      refine Or.inl ?_
      have hz := someE hF
      subst hz
      refine Exists.intro [] (Exists.intro [] (Exists.intro [] (Exists.intro [] (Exists.intro [] (And.intro rfl (And.intro rfl (And.intro (And.intro rfl trivial) trivial)))))))
  · rcases z2 with z2a | z2b
    · dsimp only [sumF] at hF
      refine And.intro ?_ trivial
      refine Or.inl ?_
      refine guardI hF (fun hF => ?_)
      refine Or.inl ?_
      refine Or.inl ?_
      obtain ⟨z4, hz4, hF⟩ := bindE hF
      refine loopI (Int × Int × (List Int)) (List Int) (fun x => ⟨[(0, .dat (.sl (.int .i64)) d), (1, .dat (.int .i64) x.1), (6, .raw false [(.osl 0)]), (7, .dat (.int .i64) x.2.1)], [(0, .arr 3 (.int .i64) x.2.2)], 1⟩) (fun z => [(2, ⟨[(6, .raw false [(.osl 0)])], [(0, .arr 3 (.int .i64) z)], 1⟩)]) (loopF (fun go x => f78_l2 d go x.1 x.2.1 x.2.2)) fuelN (at_, (IntKind.i64.wrap ((List.length d : Int) - (1 : Int))), (List.replicate (Int.toNat (List.length d : Int)) (0 : Int))) z4 (And.intro hz4 (And.intro (Exists.intro [] (Exists.intro [] (Exists.intro [] (Exists.intro [] (Exists.intro [(0, some 0)] (And.intro rfl (And.intro rfl (And.intro rfl (And.intro rfl (And.intro (And.intro rfl trivial) (And.intro rfl trivial))))))))))) (And.intro (fun _ _ h => loopZ h) (And.intro (fun m => curI (fun at__2 => curI (fun i => fun l0 z hF => ?_))) ?_))))
      · have hF : f78_l2 d (loopF (fun go x => f78_l2 d go x.1 x.2.1 x.2.2) m) at__2 i l0 = some z := hF
        unfold f78_l2 at hF
        refine Or.inl ?_
        refine Or.inl ?_
        refine condI hF (fun hF => ?_) (fun hF => ?_)
        · refine Or.inl ?_
          refine Or.inl ?_
          refine guardI hF (fun hF => ?_)
          refine guardI hF (fun hF => ?_)
          refine guardI hF (fun hF => ?_)
          refine Or.inl ?_
          refine guardI hF (fun hF => ?_)
          refine guardI hF (fun hF => ?_)
          refine Exists.intro ((IntKind.i64.wrap (Int.tdiv at__2 (rd (0 : Int) d i))), (IntKind.i64.wrap (i - (1 : Int))), (List.set l0 (Int.toNat i) (Int.tmod at__2 (rd (0 : Int) d i)))) (And.intro hF (Exists.intro [] (Exists.intro [] (Exists.intro [] (Exists.intro [] (Exists.intro [(0, some 0)] (And.intro rfl (And.intro rfl (And.intro rfl (And.intro rfl (And.intro (And.intro rfl trivial) (And.intro rfl trivial))))))))))))
        · have hz := someE hF
          subst hz
          refine Exists.intro [] (Exists.intro [] (Exists.intro [] (Exists.intro [] (Exists.intro [(0, some 0)] (And.intro rfl (And.intro (And.intro rfl trivial) (And.intro rfl trivial)))))))
      · refine And.intro ?_ trivial
        refine Or.inl ?_
        have hy := someE hF
        subst hy
        refine And.intro rfl (Exists.intro [] (Exists.intro [] (Exists.intro [] (Exists.intro [] (Exists.intro [(0, some 0)] (And.intro rfl (And.intro rfl (And.intro (And.intro rfl trivial) (And.intro rfl trivial)))))))))
    · dsimp only [sumF] at hF
      refine And.intro ?_ trivial
      have hy := someE hF
      subst hy
      refine And.intro rfl (Exists.intro [] (Exists.intro [] (Exists.intro [] (Exists.intro [] (Exists.intro [(0, none)] (And.intro rfl (And.intro rfl (And.intro (And.intro rfl trivial) (And.intro rfl trivial)))))))))
theorem C78_holds : C78.Holds Try.prog 78 := holds_of_vc tab_ok mixed (fn := Try.f78) (by kernel_rfl) rfl C78 (fun x y hF => C78_vc x.1 x.2 y hF)
theorem f78_in : ∃ fn, Try.prog.funcs[78]? = some fn ∧ fn.body.isSome = true ∧ (fn.name == "runtime.NumGoroutine") = false := ⟨Try.f78, by kernel_rfl, by kernel_rfl, by kernel_rfl⟩
end Go.Proofs
namespace Go.Proofs
open Go.AM
-- carousel/shape.At
def f79_j1 (d : List Int) (place_ : List Int) : Option (Sum Unit Unit) :=
  bindF (f74 d) fun r3 =>
  bif (!r3) then
    some (Sum.inr ())
  else
    bif ((List.length place_ : Int) != (List.length d : Int)) then
      some (Sum.inr ())
    else
      some (Sum.inl ())
def f79_j5 (d : List Int) (place_ : List Int) (v21 : Int) : Option (Sum Unit Unit) :=
  bif (decide ((rd (0 : Int) place_ v21) < (0 : Int))) then
    some (Sum.inr ())
  else
    guardF (0 ≤ v21 ∧ v21 < (List.length d : Int)) <|
    bif (decide ((rd (0 : Int) place_ v21) ≥ (rd (0 : Int) d v21))) then
      some (Sum.inr ())
    else
      some (Sum.inl ())
def f79_l4 (d : List Int) (place_ : List Int) (go : (Int × Int) → Option (Sum Unit Int)) (at_ : Int) (v21 : Int) : Option (Sum Unit Int) :=
  bif (decide (v21 < (List.length place_ : Int))) then
    guardF (0 ≤ v21 ∧ v21 < (List.length place_ : Int)) <|
    bindF (f79_j5 d place_ v21) fun z7 =>
    sumF z7 (fun z7a =>
      guardF (0 ≤ v21 ∧ v21 < (List.length d : Int)) <|
      go ((IntKind.i64.wrap ((IntKind.i64.wrap (at_ * (rd (0 : Int) d v21))) + (rd (0 : Int) place_ v21))), (IntKind.i64.wrap (v21 + (1 : Int))))) (fun z7b =>
      some (Sum.inl ()))
  else
    some (Sum.inr at_)
def f79 (d : List Int) (place_ : List Int) : Option (Int × Bool) :=
  bindF (f79_j1 d place_) fun z2 =>
  sumF z2 (fun z2a =>
    bindF (loopF (fun go x => f79_l4 d place_ go x.1 x.2) fuelN ((0 : Int), (0 : Int))) fun z6 =>
    sumF z6 (fun z6a =>
      some ((0 : Int), false)) (fun z6b =>
      some (z6b, true))) (fun z2b =>
    some ((0 : Int), false))
def C79 : Con where
  X := (List Int) × (List Int)
  Y := Int × Bool
  e := 0
  args x := [.dat (.sl (.int .i64)) x.1, .dat (.sl (.int .i64)) x.2]
  hin x := []
  F x := f79 x.1 x.2
  ret y := [.dat (.int .i64) y.1, .dat .bool y.2]
  hout y := []
  nout := 0
theorem C79_vc (d : List Int) (place_ : List Int) (y : Int × Bool) (hF : f79 d place_ = some y) : vc Try.prog tab Try.f79.ntmps 0 (match Try.f79.body with | some c => c | none => .skip) (retK tab C79 Try.f79.results.toList y) (C79.shIn (d, place_)).st := by
  unfold f79 at hF
  refine Or.inl ?_
  obtain ⟨z2, hz2, hF⟩ := bindE hF
  refine Or.inr ⟨Sum.elim (fun z2a => [(0, ⟨[(0, .dat (.sl (.int .i64)) d), (1, .dat (.sl (.int .i64)) place_)], [], 0⟩)]) (fun z2b => [(1, ⟨[(4, .dat (.int .i64) (0 : Int)), (5, .dat .bool false)], [], 0⟩)]) z2, ?_, ?_⟩
  · have hF := hz2
    clear hz2
    unfold f79_j1 at hF
    refine Or.inl ?_
    obtain ⟨r3, hr3, hF⟩ := bindE hF
    refine Or.inl (And.intro f74_in (callV0 (callI C74 d r3 [] false C74_holds hr3 rfl rfl ?_)))
    refine (And.intro rfl (And.intro (fun h => nomatch h) (And.intro rfl (And.intro rfl (And.intro trivial (And.intro trivial ?_))))))
    refine condN hF (fun hF => ?_) (fun hF => ?_)
    · refine gdYF ?_
      refine gdYF ?_
      refine gdYF ?_
      refine gdYF ?_
      refine condF ?_
      refine condI hF (fun hF => ?_) (fun hF => ?_)
      · refine Or.inl ?_
        have hz := someE hF
        subst hz
        refine Exists.intro [] (Exists.intro [] (Exists.intro [] (Exists.intro [] (Exists.intro [] (And.intro rfl (And.intro rfl (And.intro rfl (And.intro trivial trivial))))))))
      · have hz := someE hF
        subst hz
        refine Exists.intro [] (Exists.intro [] (Exists.intro [] (Exists.intro [] (Exists.intro [] (And.intro rfl (And.intro rfl (And.intro rfl (And.intro trivial trivial))))))))
    · refine gdNF ?_
      refine gdNF ?_
      refine gdNF ?_
      refine gdNF ?_
      refine condT ?_
      refine condT ?_
      refine Or.inl ?_
      have hz := someE hF
      subst hz
      refine Exists.intro [] (Exists.intro [] (Exists.intro [] (Exists.intro [] (Exists.intro [] (And.intro rfl (And.intro rfl (And.intro rfl (And.intro trivial trivial))))))))
  · rcases z2 with z2a | z2b
    · dsimp only [sumF] at hF
      refine And.intro ?_ trivial
      refine Or.inl ?_
      refine Or.inl ?_
      refine Or.inl ?_
      obtain ⟨z6, hz6, hF⟩ := bindE hF
      refine loopI (Int × Int) (Sum Unit Int) (fun x => ⟨[(0, .dat (.sl (.int .i64)) d), (6, .dat (.int .i64) x.1), (19, .dat (.sl (.int .i64)) place_), (20, .dat (.int .i64) (List.length place_ : Int)), (21, .dat (.int .i64) x.2)], [], 0⟩) (fun z => Sum.elim (fun za => [(1, ⟨[(4, .dat (.int .i64) (0 : Int)), (5, .dat .bool false)], [], 0⟩)]) (fun zb => [(2, ⟨[(6, .dat (.int .i64) zb)], [], 0⟩)]) z) (loopF (fun go x => f79_l4 d place_ go x.1 x.2)) fuelN ((0 : Int), (0 : Int)) z6 (And.intro hz6 (And.intro (Exists.intro [] (Exists.intro [] (Exists.intro [] (Exists.intro [] (Exists.intro [] (And.intro rfl (And.intro rfl (And.intro rfl (And.intro rfl (And.intro rfl (And.intro rfl (And.intro trivial trivial)))))))))))) (And.intro (fun _ _ h => loopZ h) (And.intro (fun m => curI (fun at_ => fun v21 z hF => ?_)) ?_))))
      · have hF : f79_l4 d place_ (loopF (fun go x => f79_l4 d place_ go x.1 x.2) m) at_ v21 = some z := hF
        unfold f79_l4 at hF
        refine Or.inl ?_
        refine Or.inl ?_
        refine condI hF (fun hF => ?_) (fun hF => ?_)
        · refine Or.inl ?_
          refine Or.inl ?_
          refine guardI hF (fun hF => ?_)
          obtain ⟨z7, hz7, hF⟩ := bindE hF
          refine Or.inr ⟨Sum.elim (fun z7a => [(0, ⟨[(0, .dat (.sl (.int .i64)) d), (6, .dat (.int .i64) at_), (7, .dat (.int .i64) v21), (8, .dat (.int .i64) (rd (0 : Int) place_ v21)), (19, .dat (.sl (.int .i64)) place_), (20, .dat (.int .i64) (List.length place_ : Int)), (21, .dat (.int .i64) v21)], [], 0⟩)]) (fun z7b => [(1, ⟨[(4, .dat (.int .i64) (0 : Int)), (5, .dat .bool false)], [], 0⟩)]) z7, ?_, ?_⟩
          · have hF := hz7
            clear hz7
            unfold f79_j5 at hF
            refine Or.inl ?_
            refine condN hF (fun hF => ?_) (fun hF => ?_)
            · refine gdYF ?_
              refine gdYF ?_
              refine gdYF ?_
              refine guardI hF (fun hF => ?_)
              refine gdYF ?_
              refine gdYF ?_
              refine condF ?_
              refine condI hF (fun hF => ?_) (fun hF => ?_)
              · refine Or.inl ?_
                have hz := someE hF
                subst hz
                refine Exists.intro [] (Exists.intro [] (Exists.intro [] (Exists.intro [] (Exists.intro [] (And.intro rfl (And.intro rfl (And.intro rfl (And.intro trivial trivial))))))))
              · have hz := someE hF
                subst hz
                refine Exists.intro [] (Exists.intro [] (Exists.intro [] (Exists.intro [] (Exists.intro [] (And.intro rfl (And.intro rfl (And.intro rfl (And.intro rfl (And.intro rfl (And.intro rfl (And.intro rfl (And.intro rfl (And.intro trivial trivial)))))))))))))
            · refine gdNF ?_
              refine gdNF ?_
              refine gdNF ?_
              refine gdNF ?_
              refine gdNF ?_
              refine condT ?_
              refine condT ?_
              refine Or.inl ?_
              have hz := someE hF
              subst hz
              refine Exists.intro [] (Exists.intro [] (Exists.intro [] (Exists.intro [] (Exists.intro [] (And.intro rfl (And.intro rfl (And.intro rfl (And.intro trivial trivial))))))))
          · rcases z7 with z7a | z7b
            · dsimp only [sumF] at hF
              refine And.intro ?_ trivial
              refine guardI hF (fun hF => ?_)
              refine Exists.intro ((IntKind.i64.wrap ((IntKind.i64.wrap (at_ * (rd (0 : Int) d v21))) + (rd (0 : Int) place_ v21))), (IntKind.i64.wrap (v21 + (1 : Int)))) (And.intro hF (Exists.intro [] (Exists.intro [] (Exists.intro [] (Exists.intro [] (Exists.intro [] (And.intro rfl (And.intro rfl (And.intro rfl (And.intro rfl (And.intro rfl (And.intro rfl (And.intro trivial trivial)))))))))))))
            · dsimp only [sumF] at hF
              refine And.intro ?_ trivial
              have hz := someE hF
              subst hz
              refine Exists.intro [] (Exists.intro [] (Exists.intro [] (Exists.intro [] (Exists.intro [] (And.intro rfl (And.intro rfl (And.intro rfl (And.intro trivial trivial))))))))
        · have hz := someE hF
          subst hz
          refine Exists.intro [] (Exists.intro [] (Exists.intro [] (Exists.intro [] (Exists.intro [] (And.intro rfl (And.intro rfl (And.intro trivial trivial)))))))
      · rcases z6 with z6a | z6b
        · dsimp only [sumF] at hF
          refine And.intro ?_ trivial
          have hy := someE hF
          subst hy
          refine And.intro rfl (Exists.intro [] (Exists.intro [] (Exists.intro [] (Exists.intro [] (Exists.intro [] (And.intro rfl (And.intro rfl (And.intro rfl (And.intro trivial trivial)))))))))
        · dsimp only [sumF] at hF
          refine And.intro ?_ trivial
          refine Or.inl ?_
          have hy := someE hF
          subst hy
          refine And.intro rfl (Exists.intro [] (Exists.intro [] (Exists.intro [] (Exists.intro [] (Exists.intro [] (And.intro rfl (And.intro rfl (And.intro rfl (And.intro trivial trivial)))))))))
    · dsimp only [sumF] at hF
      refine And.intro ?_ trivial
      have hy := someE hF
      subst hy
      refine And.intro rfl (Exists.intro [] (Exists.intro [] (Exists.intro [] (Exists.intro [] (Exists.intro [] (And.intro rfl (And.intro rfl (And.intro rfl (And.intro trivial trivial)))))))))
theorem C79_holds : C79.Holds Try.prog 79 := holds_of_vc tab_ok mixed (fn := Try.f79) (by kernel_rfl) rfl C79 (fun x y hF => C79_vc x.1 x.2 y hF)
theorem f79_in : ∃ fn, Try.prog.funcs[79]? = some fn ∧ fn.body.isSome = true ∧ (fn.name == "runtime.NumGoroutine") = false := ⟨Try.f79, by kernel_rfl, by kernel_rfl, by kernel_rfl⟩
end Go.Proofs
namespace Go.Proofs
open Go.AM
-- carousel/tens.Turn
def f45_j3 (a : (List Int) × (List Int)) (order : List Int) : Option Bool :=
  bindF (f42 (a.1, a.2)) fun r9 =>
  bif (!r9) then
    some true
  else
    bindF (f77 order (List.length a.1 : Int)) fun r10 =>
    some (!r10)
def f45_j2 (a : (List Int) × (List Int)) (order : List Int) : Option (Sum Unit Unit) :=
  bindF (f45_j3 a order) fun z8 =>
  bif z8 then
    some (Sum.inr ())
  else
    some (Sum.inl ())
def f45_l4 (a : (List Int) × (List Int)) (order : List Int) (go : (Int × (List Int)) → Option (List Int)) (v36 : Int) (l2 : List Int) : Option (List Int) :=
  bif (decide (v36 < (List.length order : Int))) then
    guardF (0 ≤ v36 ∧ v36 < (List.length order : Int)) <|
    guardF (0 ≤ (rd (0 : Int) order v36) ∧ (rd (0 : Int) order v36) < (List.length a.1 : Int)) <|
    guardF (0 ≤ v36 ∧ v36 < (List.length l2 : Int)) <|
    go ((IntKind.i64.wrap (v36 + (1 : Int))), (List.set l2 (Int.toNat v36) (rd (0 : Int) a.1 (rd (0 : Int) order v36))))
  else
    some l2
def f45_l8 (order : List Int) (q21_9 : Bool × (List Int)) (go : (Int × (List Int)) → Option (List Int)) (v72 : Int) (l5_2 : List Int) : Option (List Int) :=
  bif (decide (v72 < (List.length order : Int))) then
    guardF (0 ≤ v72 ∧ v72 < (List.length order : Int)) <|
    guardF (0 ≤ v72 ∧ v72 < (List.length q21_9.2 : Int)) <|
    guardF (0 ≤ (rd (0 : Int) order v72) ∧ (rd (0 : Int) order v72) < (List.length l5_2 : Int)) <|
    go ((IntKind.i64.wrap (v72 + (1 : Int))), (List.set l5_2 (Int.toNat (rd (0 : Int) order v72)) (rd (0 : Int) q21_9.2 v72)))
  else
    some l5_2
def f45_l7 (a : (List Int) × (List Int)) (order : List Int) (z11 : List Int) (r12 : Int × (List Int) × (List Int)) (go : (Int × (List Int)) → Option (List Int)) (v58 : Int) (l5 : List Int) : Option (List Int) :=
  bif (decide (v58 < (List.length r12.2.2 : Int))) then
    bindF (f78 z11 v58) fun q21_9 =>
    guardF (0 ≤ (List.length order : Int) ∧ (List.length order : Int) ≤ (List.length order : Int) ∧ Int.toNat (List.length order : Int) * 8 ≤ 140737488355328) <|
    bindF (loopF (fun go x => f45_l8 order q21_9 go x.1 x.2) fuelN ((0 : Int), (List.replicate (Int.toNat (List.length order : Int)) (0 : Int)))) fun z19 =>
    bindF (f79 a.1 z19) fun r20 =>
    guardF (0 ≤ r20.1 ∧ r20.1 < (List.length a.2 : Int)) <|
    guardF (0 ≤ v58 ∧ v58 < (List.length l5 : Int)) <|
    go ((IntKind.i64.wrap (v58 + (1 : Int))), (List.set l5 (Int.toNat v58) (rd (0 : Int) a.2 r20.1)))
  else
    some l5
def f45 (a : (List Int) × (List Int)) (order : List Int) : Option (Int × (List Int) × (List Int)) :=
  bindF (f45_j2 a order) fun z5 =>
  sumF z5 (fun z5a =>
    guardF (0 ≤ (List.length order : Int) ∧ (List.length order : Int) ≤ (List.length order : Int) ∧ Int.toNat (List.length order : Int) * 8 ≤ 140737488355328) <|
    bindF (loopF (fun go x => f45_l4 a order go x.1 x.2) fuelN ((0 : Int), (List.replicate (Int.toNat (List.length order : Int)) (0 : Int)))) fun z11 =>
    bindF (f44 z11 (0 : Int)) fun r12 =>
    bindF (loopF (fun go x => f45_l7 a order z11 r12 go x.1 x.2) fuelN ((0 : Int), r12.2.2)) fun z18 =>
    some ((0 : Int), r12.2.1, z18)) (fun z5b =>
    some ((1 : Int), [], []))
def C45 : Con where
  X := ((List Int) × (List Int)) × (List Int)
  Y := Int × (List Int) × (List Int)
  e := 0
  args x := [.dat (.p (.sl (.int .i64)) (.sl (.int .i64))) x.1, .dat (.sl (.int .i64)) x.2]
  hin x := []
  F x := f45 x.1 x.2
  ret y := [.raw true [(.osl 0), (.osl 1)], .dat (.int .i64) y.1]
  hout y := [(0, .arr 3 (.int .i64) y.2.1), (1, .arr 24 (.int .i64) y.2.2)]
  nout := 2
theorem C45_vc (a : (List Int) × (List Int)) (order : List Int) (y : Int × (List Int) × (List Int)) (hF : f45 a order = some y) : vc Try.prog tab Try.f45.ntmps 0 (match Try.f45.body with | some c => c | none => .skip) (retK tab C45 Try.f45.results.toList y) (C45.shIn (a, order)).st := by
  unfold f45 at hF
  refine Or.inl ?_
  obtain ⟨z5, hz5, hF⟩ := bindE hF
  refine Or.inr ⟨Sum.elim (fun z5a => [(0, ⟨[(1, .dat (.sl (.int .i64)) order), (2, .raw false [(.ptr 0 0)]), (4, .raw false [(.ptr 1 0)])], [(0, .cells [(.d (.sl (.int .i64)) a.1), (.d (.sl (.int .i64)) a.2)]), (1, .cells [(.c (.slice none 0 0)), (.c (.slice none 0 0))])], 2⟩)]) (fun z5b => [(1, ⟨[(4, .raw false [(.ptr 0 0)]), (5, .dat (.int .i64) (1 : Int))], [(0, .cells [(.c (.slice none 0 0)), (.c (.slice none 0 0))])], 1⟩)]) z5, ?_, ?_⟩
  · have hF := hz5
    clear hz5
    unfold f45_j2 at hF
    obtain ⟨z8, hz8, hF⟩ := bindE hF
    refine Or.inr ⟨[(0, ⟨[(1, .dat (.sl (.int .i64)) order), (2, .raw false [(.ptr 0 0)]), (4, .raw false [(.ptr 1 0)]), (29, .dat .bool z8)], [(0, .cells [(.d (.sl (.int .i64)) a.1), (.d (.sl (.int .i64)) a.2)]), (1, .cells [(.c (.slice none 0 0)), (.c (.slice none 0 0))])], 2⟩)], ?_, ?_⟩
    · have hF := hz8
      clear hz8
      unfold f45_j3 at hF
      obtain ⟨r9, hr9, hF⟩ := bindE hF
      refine Or.inl (And.intro f42_in (callV0 (callI C42 (a.1, a.2) r9 [] false C42_holds hr9 rfl rfl ?_)))
      refine (And.intro rfl (And.intro rfl (And.intro (fun h => nomatch h) (And.intro rfl (And.intro rfl (And.intro trivial (And.intro trivial ?_)))))))
      refine condN hF (fun hF => ?_) (fun hF => ?_)
      · refine gdYF ?_
        refine gdYF ?_
        refine gdYF ?_
        refine gdYF ?_
        obtain ⟨r10, hr10, hF⟩ := bindE hF
        refine Or.inl (And.intro f77_in (callV0 (callI C77 (order, (List.length a.1 : Int)) r10 [] false C77_holds hr10 rfl rfl ?_)))
        refine (And.intro rfl (And.intro rfl (And.intro (fun h => nomatch h) (And.intro rfl (And.intro rfl (And.intro trivial (And.intro trivial ?_)))))))
        refine gdYF ?_
        refine condF ?_
        have hz := someE hF
        subst hz
        refine Exists.intro [] (Exists.intro [] (Exists.intro [] (Exists.intro [] (Exists.intro [(0, some 0), (1, some 1)] (And.intro rfl (And.intro rfl (And.intro rfl (And.intro (And.intro rfl (And.intro rfl trivial)) (And.intro rfl (And.intro rfl trivial))))))))))
      · refine gdNF ?_
        refine gdNF ?_
        refine gdNF ?_
        refine gdNF ?_
        refine gdNF ?_
        refine condT ?_
        have hz := someE hF
        subst hz
        refine Exists.intro [] (Exists.intro [] (Exists.intro [] (Exists.intro [] (Exists.intro [(0, some 0), (1, some 1)] (And.intro rfl (And.intro rfl (And.intro rfl (And.intro (And.intro rfl (And.intro rfl trivial)) (And.intro rfl (And.intro rfl trivial))))))))))
    · refine And.intro ?_ trivial
      refine condI hF (fun hF => ?_) (fun hF => ?_)
      · refine Or.inl ?_
        refine Or.inl ?_
        have hz := someE hF
        subst hz
        refine Exists.intro [] (Exists.intro [] (Exists.intro [] (Exists.intro [] (Exists.intro [(0, some 1)] (And.intro rfl (And.intro rfl (And.intro (And.intro rfl trivial) (And.intro rfl trivial))))))))
      · have hz := someE hF
        subst hz
        refine Exists.intro [] (Exists.intro [] (Exists.intro [] (Exists.intro [] (Exists.intro [(0, some 0), (1, some 1)] (And.intro rfl (And.intro rfl (And.intro (And.intro rfl (And.intro rfl trivial)) (And.intro rfl (And.intro rfl trivial)))))))))
  · rcases z5 with z5a | z5b
    · dsimp only [sumF] at hF
      refine And.intro ?_ trivial
      refine Or.inl ?_
      refine guardI hF (fun hF => ?_)
      refine Or.inl ?_
      refine Or.inl ?_
      obtain ⟨z11, hz11, hF⟩ := bindE hF
      refine loopI (Int × (List Int)) (List Int) (fun x => ⟨[(1, .dat (.sl (.int .i64)) order), (2, .raw false [(.ptr 0 0)]), (4, .raw false [(.ptr 1 0)]), (6, .raw false [(.osl 2)]), (34, .dat (.sl (.int .i64)) order), (35, .dat (.int .i64) (List.length order : Int)), (36, .dat (.int .i64) x.1)], [(0, .cells [(.d (.sl (.int .i64)) a.1), (.d (.sl (.int .i64)) a.2)]), (1, .cells [(.c (.slice none 0 0)), (.c (.slice none 0 0))]), (2, .arr 3 (.int .i64) x.2)], 3⟩) (fun z => [(2, ⟨[(1, .dat (.sl (.int .i64)) order), (2, .raw false [(.ptr 0 0)]), (4, .raw false [(.ptr 1 0)]), (6, .raw false [(.osl 2)])], [(0, .cells [(.d (.sl (.int .i64)) a.1), (.d (.sl (.int .i64)) a.2)]), (1, .cells [(.c (.slice none 0 0)), (.c (.slice none 0 0))]), (2, .arr 3 (.int .i64) z)], 3⟩)]) (loopF (fun go x => f45_l4 a order go x.1 x.2)) fuelN ((0 : Int), (List.replicate (Int.toNat (List.length order : Int)) (0 : Int))) z11 (And.intro hz11 (And.intro (Exists.intro [] (Exists.intro [] (Exists.intro [] (Exists.intro [] (Exists.intro [(0, some 0), (1, some 1), (2, some 2)] (And.intro rfl (And.intro rfl (And.intro rfl (And.intro rfl (And.intro rfl (And.intro (And.intro rfl (And.intro rfl (And.intro rfl trivial))) (And.intro rfl (And.intro rfl (And.intro rfl trivial)))))))))))))) (And.intro (fun _ _ h => loopZ h) (And.intro (fun m => curI (fun v36 => fun l2 z hF => ?_)) ?_))))
      · have hF : f45_l4 a order (loopF (fun go x => f45_l4 a order go x.1 x.2) m) v36 l2 = some z := hF
        unfold f45_l4 at hF
        refine Or.inl ?_
        refine Or.inl ?_
        refine condI hF (fun hF => ?_) (fun hF => ?_)
        · refine Or.inl ?_
          refine Or.inl ?_
          refine guardI hF (fun hF => ?_)
          refine guardI hF (fun hF => ?_)
          refine guardI hF (fun hF => ?_)
          refine Or.inl ?_
          refine Exists.intro ((IntKind.i64.wrap (v36 + (1 : Int))), (List.set l2 (Int.toNat v36) (rd (0 : Int) a.1 (rd (0 : Int) order v36)))) (And.intro hF (Exists.intro [] (Exists.intro [] (Exists.intro [] (Exists.intro [] (Exists.intro [(0, some 0), (1, some 1), (2, some 2)] (And.intro rfl (And.intro rfl (And.intro rfl (And.intro rfl (And.intro rfl (And.intro (And.intro rfl (And.intro rfl (And.intro rfl trivial))) (And.intro rfl (And.intro rfl (And.intro rfl trivial)))))))))))))))
        · have hz := someE hF
          subst hz
          refine Exists.intro [] (Exists.intro [] (Exists.intro [] (Exists.intro [] (Exists.intro [(0, some 0), (1, some 1), (2, some 2)] (And.intro rfl (And.intro rfl (And.intro (And.intro rfl (And.intro rfl (And.intro rfl trivial))) (And.intro rfl (And.intro rfl (And.intro rfl trivial))))))))))
      · refine And.intro ?_ trivial
        refine Or.inl ?_
        obtain ⟨r12, hr12, hF⟩ := bindE hF
        refine Or.inl (And.intro f44_in (callV0 (callI C44 (z11, (0 : Int)) r12 [] true C44_holds hr12 rfl rfl ?_)))
        refine (And.intro rfl (And.intro rfl (And.intro (fun _ => rfl) (And.intro rfl (And.intro rfl (And.intro trivial (And.intro trivial ?_)))))))
        refine Or.inl ?_
        refine Or.inl ?_
        refine Or.inl ?_
        obtain ⟨z18, hz18, hF⟩ := bindE hF
        refine loopI (Int × (List Int)) (List Int) (fun x => ⟨[(1, .dat (.sl (.int .i64)) order), (2, .raw false [(.ptr 0 0)]), (4, .raw false [(.ptr 1 0)]), (6, .raw false [(.osl 2)]), (9, .raw false [(.ptr 3 0)]), (57, .dat (.int .i64) (List.length r12.2.2 : Int)), (58, .dat (.int .i64) x.1)], [(0, .cells [(.d (.sl (.int .i64)) a.1), (.d (.sl (.int .i64)) a.2)]), (1, .cells [(.c (.slice none 0 0)), (.c (.slice none 0 0))]), (2, .arr 3 (.int .i64) z11), (3, .cells [(.osl 4), (.osl 5)]), (4, .arr 3 (.int .i64) r12.2.1), (5, .arr 24 (.int .i64) x.2)], 6⟩) (fun z => [(4, ⟨[(4, .raw false [(.ptr 0 0)]), (9, .raw false [(.ptr 1 0)])], [(0, .cells [(.c (.slice none 0 0)), (.c (.slice none 0 0))]), (1, .cells [(.osl 2), (.osl 3)]), (2, .arr 3 (.int .i64) r12.2.1), (3, .arr 24 (.int .i64) z)], 4⟩)]) (loopF (fun go x => f45_l7 a order z11 r12 go x.1 x.2)) fuelN ((0 : Int), r12.2.2) z18 (And.intro hz18 (And.intro (Exists.intro [] (Exists.intro [] (Exists.intro [] (Exists.intro [] (Exists.intro [(0, some 0), (1, some 1), (2, some 2), (3, some 5), (4, some 3), (5, some 4)] (And.intro rfl (And.intro rfl (And.intro rfl (And.intro rfl (And.intro (And.intro rfl (And.intro rfl (And.intro rfl (And.intro rfl trivial)))) (And.intro rfl (And.intro rfl (And.intro rfl (And.intro rfl (And.intro rfl (And.intro rfl trivial)))))))))))))))) (And.intro (fun _ _ h => loopZ h) (And.intro (fun m => curI (fun v58 => fun l5 z hF => ?_)) ?_))))
        · have hF : f45_l7 a order z11 r12 (loopF (fun go x => f45_l7 a order z11 r12 go x.1 x.2) m) v58 l5 = some z := hF
          unfold f45_l7 at hF
          refine Or.inl ?_
          refine Or.inl ?_
          refine condI hF (fun hF => ?_) (fun hF => ?_)
          · refine Or.inl ?_
            refine Or.inl ?_
            refine Or.inl ?_
            obtain ⟨q21_9, hq21_9, hF⟩ := bindE hF
            refine Or.inl (And.intro f78_in (callV0 (callI C78 (z11, v58) q21_9 [] true C78_holds hq21_9 rfl rfl ?_)))
            refine (And.intro rfl (And.intro rfl (And.intro (fun _ => rfl) (And.intro rfl (And.intro rfl (And.intro trivial (And.intro trivial ?_)))))))
            refine Or.inl ?_
            refine guardI hF (fun hF => ?_)
            refine Or.inl ?_
            refine Or.inl ?_
            obtain ⟨z19, hz19, hF⟩ := bindE hF
            refine loopI (Int × (List Int)) (List Int) (fun x => ⟨[(1, .dat (.sl (.int .i64)) order), (2, .raw false [(.ptr 0 0)]), (4, .raw false [(.ptr 1 0)]), (6, .raw false [(.osl 2)]), (9, .raw false [(.ptr 3 0)]), (11, .dat (.int .i64) v58), (12, .raw false [(.osl 4)]), (14, .raw false [(.osl 5)]), (57, .dat (.int .i64) (List.length r12.2.2 : Int)), (58, .dat (.int .i64) v58), (70, .dat (.sl (.int .i64)) order), (71, .dat (.int .i64) (List.length order : Int)), (72, .dat (.int .i64) x.1)], [(0, .cells [(.d (.sl (.int .i64)) a.1), (.d (.sl (.int .i64)) a.2)]), (1, .cells [(.c (.slice none 0 0)), (.c (.slice none 0 0))]), (2, .arr 3 (.int .i64) z11), (3, .cells [(.osl 6), (.osl 7)]), (4, .arr 3 (.int .i64) q21_9.2), (5, .arr 3 (.int .i64) x.2), (6, .arr 3 (.int .i64) r12.2.1), (7, .arr 24 (.int .i64) l5)], 8⟩) (fun z => [(6, ⟨[(1, .dat (.sl (.int .i64)) order), (2, .raw false [(.ptr 0 0)]), (4, .raw false [(.ptr 1 0)]), (6, .raw false [(.osl 2)]), (9, .raw false [(.ptr 3 0)]), (11, .dat (.int .i64) v58), (14, .raw false [(.osl 4)]), (57, .dat (.int .i64) (List.length r12.2.2 : Int)), (58, .dat (.int .i64) v58)], [(0, .cells [(.d (.sl (.int .i64)) a.1), (.d (.sl (.int .i64)) a.2)]), (1, .cells [(.c (.slice none 0 0)), (.c (.slice none 0 0))]), (2, .arr 3 (.int .i64) z11), (3, .cells [(.osl 5), (.osl 6)]), (4, .arr 3 (.int .i64) z), (5, .arr 3 (.int .i64) r12.2.1), (6, .arr 24 (.int .i64) l5)], 7⟩)]) (loopF (fun go x => f45_l8 order q21_9 go x.1 x.2)) fuelN ((0 : Int), (List.replicate (Int.toNat (List.length order : Int)) (0 : Int))) z19 (And.intro hz19 (And.intro (Exists.intro [] (Exists.intro [] (Exists.intro [] (Exists.intro [] (Exists.intro [(0, some 0), (1, some 1), (2, some 2), (3, some 3), (4, some 6), (5, some 7), (6, some 4), (7, some 5)] (And.intro rfl (And.intro rfl (And.intro rfl (And.intro rfl (And.intro rfl (And.intro rfl (And.intro rfl (And.intro rfl (And.intro (And.intro rfl (And.intro rfl (And.intro rfl (And.intro rfl (And.intro rfl (And.intro rfl trivial)))))) (And.intro rfl (And.intro rfl (And.intro rfl (And.intro rfl (And.intro rfl (And.intro rfl (And.intro rfl (And.intro rfl trivial)))))))))))))))))))))) (And.intro (fun _ _ h => loopZ h) (And.intro (fun m => curI (fun v72 => fun l5_2 z hF => ?_)) ?_))))
            · have hF : f45_l8 order q21_9 (loopF (fun go x => f45_l8 order q21_9 go x.1 x.2) m) v72 l5_2 = some z := hF
              unfold f45_l8 at hF
              refine Or.inl ?_
              refine Or.inl ?_
              refine condI hF (fun hF => ?_) (fun hF => ?_)
              · refine Or.inl ?_
                refine Or.inl ?_
                refine guardI hF (fun hF => ?_)
                refine guardI hF (fun hF => ?_)
                refine guardI hF (fun hF => ?_)
                refine Or.inl ?_
                refine Exists.intro ((IntKind.i64.wrap (v72 + (1 : Int))), (List.set l5_2 (Int.toNat (rd (0 : Int) order v72)) (rd (0 : Int) q21_9.2 v72))) (And.intro hF (Exists.intro [] (Exists.intro [] (Exists.intro [] (Exists.intro [] (Exists.intro [(0, some 0), (1, some 1), (2, some 2), (3, some 3), (4, some 4), (5, some 5), (6, some 6), (7, some 7)] (And.intro rfl (And.intro rfl (And.intro rfl (And.intro rfl (And.intro rfl (And.intro rfl (And.intro rfl (And.intro rfl (And.intro (And.intro rfl (And.intro rfl (And.intro rfl (And.intro rfl (And.intro rfl (And.intro rfl trivial)))))) (And.intro rfl (And.intro rfl (And.intro rfl (And.intro rfl (And.intro rfl (And.intro rfl (And.intro rfl (And.intro rfl trivial)))))))))))))))))))))))
              · have hz := someE hF
                subst hz
                refine Exists.intro [] (Exists.intro [] (Exists.intro [] (Exists.intro [] (Exists.intro [(0, some 0), (1, some 1), (2, some 2), (3, some 3), (4, some 5), (5, some 6), (6, some 7)] (And.intro rfl (And.intro rfl (And.intro rfl (And.intro rfl (And.intro rfl (And.intro (And.intro rfl (And.intro rfl (And.intro rfl (And.intro rfl (And.intro rfl trivial))))) (And.intro rfl (And.intro rfl (And.intro rfl (And.intro rfl (And.intro rfl (And.intro rfl (And.intro rfl trivial)))))))))))))))))
            · refine And.intro ?_ trivial
              refine Or.inl ?_
              obtain ⟨r20, hr20, hF⟩ := bindE hF
              refine Or.inl (And.intro f79_in (callV0 (callI C79 (a.1, z19) r20 [] true C79_holds hr20 rfl rfl ?_)))
              refine (And.intro rfl (And.intro rfl (And.intro (fun _ => rfl) (And.intro rfl (And.intro rfl (And.intro trivial (And.intro trivial ?_)))))))
              refine Exists.intro (.take 0 (.take 1 (.take 2 (.take 3 (.take 4 (.take 5 (.take 6 (.take 7 (.take 8 (.alt 9 .done .done)))))))))) (Exists.intro [] (Exists.intro [] (And.intro rfl ?_)))
              refine guardI hF (fun hF => ?_)
              refine guardI hF (fun hF => ?_)
              refine And.intro trivial ?_
              refine Or.inl ?_
              refine Exists.intro ((IntKind.i64.wrap (v58 + (1 : Int))), (List.set l5 (Int.toNat v58) (rd (0 : Int) a.2 r20.1))) (And.intro hF (Exists.intro [] (Exists.intro [] (Exists.intro [] (Exists.intro [] (Exists.intro [(0, some 0), (1, some 1), (2, some 2), (3, some 3), (4, some 5), (5, some 6)] (And.intro rfl (And.intro rfl (And.intro rfl (And.intro rfl (And.intro (And.intro rfl (And.intro rfl (And.intro rfl (And.intro rfl trivial)))) (And.intro rfl (And.intro rfl (And.intro rfl (And.intro rfl (And.intro rfl (And.intro rfl trivial)))))))))))))))))
          · have hz := someE hF
            subst hz
            refine Exists.intro [] (Exists.intro [] (Exists.intro [] (Exists.intro [] (Exists.intro [(0, some 1), (1, some 3), (2, some 4), (3, some 5)] (And.intro rfl (And.intro (And.intro rfl (And.intro rfl trivial)) (And.intro rfl (And.intro rfl (And.intro rfl (And.intro rfl trivial))))))))))
        · refine And.intro ?_ trivial
          refine Or.inl ?_
          refine Or.inl ?_
          have hy := someE hF
          subst hy
          refine And.intro rfl (Exists.intro [] (Exists.intro [] (Exists.intro [] (Exists.intro [] (Exists.intro [(0, some 2), (1, some 3)] (And.intro rfl (And.intro rfl (And.intro (And.intro rfl trivial) (And.intro rfl (And.intro rfl trivial))))))))))
    · dsimp only [sumF] at hF
      refine And.intro ?_ trivial
      have hy := someE hF
      subst hy
      refine And.intro rfl (Exists.intro [] (Exists.intro [] (Exists.intro [] (Exists.intro [] (Exists.intro [(0, none), (1, none)] (And.intro rfl (And.intro rfl (And.intro (And.intro rfl trivial) (And.intro rfl (And.intro rfl trivial))))))))))
theorem C45_holds : C45.Holds Try.prog 45 := holds_of_vc tab_ok mixed (fn := Try.f45) (by kernel_rfl) rfl C45 (fun x y hF => C45_vc x.1 x.2 y hF)
theorem f45_in : ∃ fn, Try.prog.funcs[45]? = some fn ∧ fn.body.isSome = true ∧ (fn.name == "runtime.NumGoroutine") = false := ⟨Try.f45, by kernel_rfl, by kernel_rfl, by kernel_rfl⟩
end Go.Proofs
namespace Go.Proofs
open Go.AM
-- carousel/matm.Flip
def f18 (a : (List Int) × (List Int)) : Option (Int × (List Int) × (List Int)) :=
  bindF (f42 (a.1, a.2)) fun r1 =>
  bif (!r1) then
    some ((1 : Int), [], [])
  else
    bindF (f43 (a.1, a.2)) fun r2 =>
    bif (!r2) then
      some ((4 : Int), [], [])
    else
      bindF (f45 (a.1, a.2) ([(1 : Int), (0 : Int)])) fun r3 =>
      some (r3.1, r3.2.1, r3.2.2)
def C18 : Con where
  X := (List Int) × (List Int)
  Y := Int × (List Int) × (List Int)
  e := 0
  args x := [.dat (.p (.sl (.int .i64)) (.sl (.int .i64))) x]
  hin x := []
  F x := f18 x
  ret y := [.raw true [(.osl 0), (.osl 1)], .dat (.int .i64) y.1]
  hout y := [(0, .arr 3 (.int .i64) y.2.1), (1, .arr 24 (.int .i64) y.2.2)]
  nout := 2
theorem C18_vc (a : (List Int) × (List Int)) (y : Int × (List Int) × (List Int)) (hF : f18 a = some y) : vc Try.prog tab Try.f18.ntmps 0 (match Try.f18.body with | some c => c | none => .skip) (retK tab C18 Try.f18.results.toList y) (C18.shIn a).st := by
  unfold f18 at hF
  refine Or.inl ?_
  refine Or.inl ?_
  refine Or.inl ?_
  obtain ⟨r1, hr1, hF⟩ := bindE hF
  refine Or.inl (And.intro f42_in (callV0 (callI C42 (a.1, a.2) r1 [] false C42_holds hr1 rfl rfl ?_)))
  refine (And.intro rfl (And.intro rfl (And.intro (fun h => nomatch h) (And.intro rfl (And.intro rfl (And.intro trivial (And.intro trivial ?_)))))))
  refine condI hF (fun hF => ?_) (fun hF => ?_)
  · refine Or.inl ?_
    refine Or.inl ?_
    have hy := someE hF
    subst hy
    refine And.intro rfl (Exists.intro [] (Exists.intro [] (Exists.intro [] (Exists.intro [] (Exists.intro [(0, none), (1, none)] (And.intro rfl (And.intro rfl (And.intro (And.intro rfl trivial) (And.intro rfl (And.intro rfl trivial))))))))))
  · refine Or.inl ?_
    obtain ⟨r2, hr2, hF⟩ := bindE hF
    refine Or.inl (And.intro f43_in (callV0 (callI C43 (a.1, a.2) r2 [] false C43_holds hr2 rfl rfl ?_)))
    refine (And.intro rfl (And.intro rfl (And.intro (fun h => nomatch h) (And.intro rfl (And.intro rfl (And.intro trivial (And.intro trivial ?_)))))))
    refine condI hF (fun hF => ?_) (fun hF => ?_)
    · refine Or.inl ?_
      refine Or.inl ?_
      have hy := someE hF
      subst hy
      refine And.intro rfl (Exists.intro [] (Exists.intro [] (Exists.intro [] (Exists.intro [] (Exists.intro [(0, none), (1, none)] (And.intro rfl (And.intro rfl (And.intro (And.intro rfl trivial) (And.intro rfl (And.intro rfl trivial))))))))))
    · refine Or.inl ?_
      refine Or.inl ?_
      obtain ⟨r3, hr3, hF⟩ := bindE hF
      refine Or.inl (And.intro f45_in (callV0 (callI C45 ((a.1, a.2), [(1 : Int), (0 : Int)]) r3 [] true C45_holds hr3 rfl rfl ?_)))
      refine (And.intro rfl (And.intro rfl (And.intro rfl (And.intro (fun _ => rfl) (And.intro rfl (And.intro rfl (And.intro trivial (And.intro trivial ?_))))))))
      refine Or.inl ?_
      have hy := someE hF
      subst hy
      refine And.intro rfl (Exists.intro [] (Exists.intro [] (Exists.intro [] (Exists.intro [] (Exists.intro [(0, some 3), (1, some 4)] (And.intro rfl (And.intro rfl (And.intro (And.intro rfl trivial) (And.intro rfl (And.intro rfl trivial))))))))))
theorem C18_holds : C18.Holds Try.prog 18 := holds_of_vc tab_ok mixed (fn := Try.f18) (by kernel_rfl) rfl C18 (fun x y hF => C18_vc x y hF)
theorem f18_in : ∃ fn, Try.prog.funcs[18]? = some fn ∧ fn.body.isSome = true ∧ (fn.name == "runtime.NumGoroutine") = false := ⟨Try.f18, by kernel_rfl, by kernel_rfl, by kernel_rfl⟩
end Go.Proofs
namespace Go.Proofs
open Go.AM
-- carousel/wide.size
def f84 (v : Int) : Option Int :=
  bif (decide (v < (0 : Int))) then
    some (IntKind.u64.wrap (0 - (IntKind.u64.wrap v)))
  else
    some (IntKind.u64.wrap v)
def C84 : Con where
  X := Int
  Y := Int
  e := 0
  args x := [.dat (.int .i64) x]
  hin x := []
  F x := f84 x
  ret y := [.dat (.int .u64) y]
  hout y := []
  nout := 0
theorem C84_vc (v : Int) (y : Int) (hF : f84 v = some y) : vc Try.prog tab Try.f84.ntmps 0 (match Try.f84.body with | some c => c | none => .skip) (retK tab C84 Try.f84.results.toList y) (C84.shIn v).st := by
  unfold f84 at hF
  refine Or.inl ?_
  refine Or.inl ?_
  refine Or.inl ?_
  refine condI hF (fun hF => ?_) (fun hF => ?_)
  · refine Or.inl ?_
    have hy := someE hF
    subst hy
    refine And.intro rfl (Exists.intro [] (Exists.intro [] (Exists.intro [] (Exists.intro [] (Exists.intro [] (And.intro rfl (And.intro rfl (And.intro trivial trivial))))))))
  · refine Or.inl ?_
    have hy := someE hF
    subst hy
    refine And.intro rfl (Exists.intro [] (Exists.intro [] (Exists.intro [] (Exists.intro [] (Exists.intro [] (And.intro rfl (And.intro rfl (And.intro trivial trivial))))))))
theorem C84_holds : C84.Holds Try.prog 84 := holds_of_vc tab_ok mixed (fn := Try.f84) (by kernel_rfl) rfl C84 (fun x y hF => C84_vc x y hF)
theorem f84_in : ∃ fn, Try.prog.funcs[84]? = some fn ∧ fn.body.isSome = true ∧ (fn.name == "runtime.NumGoroutine") = false := ⟨Try.f84, by kernel_rfl, by kernel_rfl, by kernel_rfl⟩
end Go.Proofs
namespace Go.Proofs
open Go.AM
-- carousel/wide.Sub
def f104 (a : Int × Int) (b : Int × Int) : Option (Int × Int) :=
  bindF (sub64 a.2 b.2 (0 : Int)) fun r1 =>
  bindF (sub64 (IntKind.u64.wrap a.1) (IntKind.u64.wrap b.1) r1.2) fun r2 =>
  some ((IntKind.i64.wrap r2.1), r1.1)
def C104 : Con where
  X := (Int × Int) × (Int × Int)
  Y := Int × Int
  e := 0
  args x := [.dat (.p (.int .i64) (.int .u64)) x.1, .dat (.p (.int .i64) (.int .u64)) x.2]
  hin x := []
  F x := f104 x.1 x.2
  ret y := [.raw true [(.d (.int .i64) y.1), (.d (.int .u64) y.2)]]
  hout y := []
  nout := 0
theorem C104_vc (a : Int × Int) (b : Int × Int) (y : Int × Int) (hF : f104 a b = some y) : vc Try.prog tab Try.f104.ntmps 0 (match Try.f104.body with | some c => c | none => .skip) (retK tab C104 Try.f104.results.toList y) (C104.shIn (a, b)).st := by
  unfold f104 at hF
  refine Or.inl ?_
  refine Or.inl ?_
  obtain ⟨r1, hr1, hF⟩ := bindE hF
  refine Or.inr ⟨ext3 sub64, [r1.1, r1.2], sub64_ok, And.intro (ext3I hr1) ?_⟩
  refine Or.inl ?_
  obtain ⟨r2, hr2, hF⟩ := bindE hF
  refine Or.inr ⟨ext3 sub64, [r2.1, r2.2], sub64_ok, And.intro (ext3I hr2) ?_⟩
  refine Or.inl ?_
  refine Or.inl ?_
  have hy := someE hF
  subst hy
  refine And.intro rfl (Exists.intro [] (Exists.intro [] (Exists.intro [] (Exists.intro [] (Exists.intro [] (And.intro rfl (And.intro (And.intro rfl trivial) trivial)))))))
theorem C104_holds : C104.Holds Try.prog 104 := holds_of_vc tab_ok mixed (fn := Try.f104) (by kernel_rfl) rfl C104 (fun x y hF => C104_vc x.1 x.2 y hF)
theorem f104_in : ∃ fn, Try.prog.funcs[104]? = some fn ∧ fn.body.isSome = true ∧ (fn.name == "runtime.NumGoroutine") = false := ⟨Try.f104, by kernel_rfl, by kernel_rfl, by kernel_rfl⟩
end Go.Proofs
namespace Go.Proofs
open Go.AM
-- carousel/wide.Neg
def f86 (a : Int × Int) : Option (Int × Int) :=
  bindF (f104 ((0 : Int), (0 : Int)) (a.1, a.2)) fun r1 =>
  some (r1.1, r1.2)
def C86 : Con where
  X := Int × Int
  Y := Int × Int
  e := 0
  args x := [.dat (.p (.int .i64) (.int .u64)) x]
  hin x := []
  F x := f86 x
  ret y := [.raw true [(.d (.int .i64) y.1), (.d (.int .u64) y.2)]]
  hout y := []
  nout := 0
theorem C86_vc (a : Int × Int) (y : Int × Int) (hF : f86 a = some y) : vc Try.prog tab Try.f86.ntmps 0 (match Try.f86.body with | some c => c | none => .skip) (retK tab C86 Try.f86.results.toList y) (C86.shIn a).st := by
  unfold f86 at hF
  refine Or.inl ?_
  refine Or.inl ?_
  obtain ⟨r1, hr1, hF⟩ := bindE hF
  refine Or.inl (And.intro f104_in (callV0 (callI C104 (((0 : Int), (0 : Int)), (a.1, a.2)) r1 [] false C104_holds hr1 rfl rfl ?_)))
  refine (And.intro rfl (And.intro rfl (And.intro rfl (And.intro rfl (And.intro (fun h => nomatch h) (And.intro rfl (And.intro rfl (And.intro trivial (And.intro trivial ?_)))))))))
  refine Or.inl ?_
  have hy := someE hF
  subst hy
  refine And.intro rfl (Exists.intro [] (Exists.intro [] (Exists.intro [] (Exists.intro [] (Exists.intro [] (And.intro rfl (And.intro (And.intro rfl trivial) trivial)))))))
theorem C86_holds : C86.Holds Try.prog 86 := holds_of_vc tab_ok mixed (fn := Try.f86) (by kernel_rfl) rfl C86 (fun x y hF => C86_vc x y hF)
theorem f86_in : ∃ fn, Try.prog.funcs[86]? = some fn ∧ fn.body.isSome = true ∧ (fn.name == "runtime.NumGoroutine") = false := ⟨Try.f86, by kernel_rfl, by kernel_rfl, by kernel_rfl⟩
end Go.Proofs
namespace Go.Proofs
open Go.AM
-- carousel/wide.Prod
def f66 (a : Int) (b : Int) : Option (Int × Int) :=
  bindF (f84 a) fun r1 =>
  bindF (f84 b) fun r2 =>
  bindF (f97 r1 r2) fun r3 =>
  bif (!((decide (a < (0 : Int))) == (decide (b < (0 : Int))))) then
    bindF (f86 ((IntKind.i64.wrap r3.1), r3.2)) fun r4 =>
    some (r4.1, r4.2)
  else
    some ((IntKind.i64.wrap r3.1), r3.2)
def C66 : Con where
  X := Int × Int
  Y := Int × Int
  e := 0
  args x := [.dat (.int .i64) x.1, .dat (.int .i64) x.2]
  hin x := []
  F x := f66 x.1 x.2
  ret y := [.raw true [(.d (.int .i64) y.1), (.d (.int .u64) y.2)]]
  hout y := []
  nout := 0
theorem C66_vc (a : Int) (b : Int) (y : Int × Int) (hF : f66 a b = some y) : vc Try.prog tab Try.f66.ntmps 0 (match Try.f66.body with | some c => c | none => .skip) (retK tab C66 Try.f66.results.toList y) (C66.shIn (a, b)).st := by
  unfold f66 at hF
  refine Or.inl ?_
  refine Or.inl ?_
  obtain ⟨r1, hr1, hF⟩ := bindE hF
  refine Or.inl (And.intro f84_in (callV0 (callI C84 a r1 [] false C84_holds hr1 rfl rfl ?_)))
  refine (And.intro rfl (And.intro (fun h => nomatch h) (And.intro rfl (And.intro rfl (And.intro trivial (And.intro trivial ?_))))))
  obtain ⟨r2, hr2, hF⟩ := bindE hF
  refine Or.inl (And.intro f84_in (callV0 (callI C84 b r2 [] false C84_holds hr2 rfl rfl ?_)))
  refine (And.intro rfl (And.intro (fun h => nomatch h) (And.intro rfl (And.intro rfl (And.intro trivial (And.intro trivial ?_))))))
  obtain ⟨r3, hr3, hF⟩ := bindE hF
  refine Or.inl (And.intro f97_in (callV0 (callI C97 (r1, r2) r3 [] false C97_holds hr3 rfl rfl ?_)))
  refine (And.intro rfl (And.intro rfl (And.intro (fun h => nomatch h) (And.intro rfl (And.intro rfl (And.intro trivial (And.intro trivial ?_)))))))
  refine Or.inl ?_
  refine Or.inl ?_
  refine Or.inl ?_
  refine Or.inl ?_
  refine condI hF (fun hF => ?_) (fun hF => ?_)
  · refine Or.inl ?_
    obtain ⟨r4, hr4, hF⟩ := bindE hF
    refine Or.inl (And.intro f86_in (callV0 (callI C86 ((IntKind.i64.wrap r3.1), r3.2) r4 [] false C86_holds hr4 rfl rfl ?_)))
    refine (And.intro rfl (And.intro rfl (And.intro (fun h => nomatch h) (And.intro rfl (And.intro rfl (And.intro trivial (And.intro trivial ?_)))))))
    refine Or.inl ?_
    have hy := someE hF
    subst hy
    refine And.intro rfl (Exists.intro [] (Exists.intro [] (Exists.intro [] (Exists.intro [] (Exists.intro [] (And.intro rfl (And.intro (And.intro rfl trivial) trivial)))))))
  · refine Or.inl ?_
    refine Or.inl ?_
    have hy := someE hF
    subst hy
    refine And.intro rfl (Exists.intro [] (Exists.intro [] (Exists.intro [] (Exists.intro [] (Exists.intro [] (And.intro rfl (And.intro (And.intro rfl trivial) trivial)))))))
theorem C66_holds : C66.Holds Try.prog 66 := holds_of_vc tab_ok mixed (fn := Try.f66) (by kernel_rfl) rfl C66 (fun x y hF => C66_vc x.1 x.2 y hF)
theorem f66_in : ∃ fn, Try.prog.funcs[66]? = some fn ∧ fn.body.isSome = true ∧ (fn.name == "runtime.NumGoroutine") = false := ⟨Try.f66, by kernel_rfl, by kernel_rfl, by kernel_rfl⟩
end Go.Proofs
namespace Go.Proofs
open Go.AM
-- (*carousel/wide.Acc).Plus
def f36 (s_top : Int) (s_low_Hi : Int) (s_low_Lo : Int) (a : Int) (b : Int) : Option (Int × Int × Int) :=
  bindF (f66 a b) fun q4_13 =>
  bindF (add64 s_low_Lo q4_13.2 (0 : Int)) fun q1_7 =>
  bindF (add64 (IntKind.u64.wrap s_low_Hi) (IntKind.u64.wrap q4_13.1) q1_7.2) fun q2_10 =>
  some ((IntKind.i64.wrap (s_top + (IntKind.i64.wrap ((Int.fdiv q4_13.1 (2 ^ min (Int.toNat (63 : Int)) (IntKind.bits IntKind.i64))) + (IntKind.i64.wrap q2_10.2))))), (IntKind.i64.wrap q2_10.1), q1_7.1)
def C36 : Con where
  X := Int × Int × Int × Int × Int
  Y := Int × Int × Int
  e := 1
  args x := [.raw false [(.ptr 0 0)], .dat (.int .i64) x.2.2.2.1, .dat (.int .i64) x.2.2.2.2]
  hin x := [(0, .cells [(.d (.int .i64) x.1), (.d (.int .i64) x.2.1), (.d (.int .u64) x.2.2.1)])]
  F x := f36 x.1 x.2.1 x.2.2.1 x.2.2.2.1 x.2.2.2.2
  ret y := []
  hout y := [(0, .cells [(.d (.int .i64) y.1), (.d (.int .i64) y.2.1), (.d (.int .u64) y.2.2)])]
  nout := 1
theorem C36_vc (s_top : Int) (s_low_Hi : Int) (s_low_Lo : Int) (a : Int) (b : Int) (y : Int × Int × Int) (hF : f36 s_top s_low_Hi s_low_Lo a b = some y) : vc Try.prog tab Try.f36.ntmps 1 (match Try.f36.body with | some c => c | none => .skip) (retK tab C36 Try.f36.results.toList y) (C36.shIn (s_top, s_low_Hi, s_low_Lo, a, b)).st := by
  unfold f36 at hF
  refine Or.inl ?_
  obtain ⟨q4_13, hq4_13, hF⟩ := bindE hF
  refine Or.inl (And.intro f66_in (callV0 (callI C66 (a, b) q4_13 [] false C66_holds hq4_13 rfl rfl ?_)))
  refine (And.intro rfl (And.intro rfl (And.intro (fun h => nomatch h) (And.intro rfl (And.intro rfl (And.intro trivial (And.intro trivial ?_)))))))
  refine Or.inl ?_
  refine Or.inl ?_
  refine Exists.intro (.take 0 (.take 1 (.take 2 (.take 3 (.take 4 (.take 5 (.take 6 (.alt 7 (.take 8 (.take 9 (.take 10 (.take 11 (.take 12 .done))))) .done)))))))) (Exists.intro [] (Exists.intro [] (And.intro rfl ?_)))
  refine And.intro trivial ?_
  obtain ⟨q1_7, hq1_7, hF⟩ := bindE hF
  refine Or.inr ⟨ext3 add64, [q1_7.1, q1_7.2], add64_ok, And.intro (ext3I hq1_7) ?_⟩
  refine Or.inl ?_
  refine Exists.intro (.take 0 (.take 1 (.take 2 (.take 3 (.take 4 (.take 5 (.take 6 (.take 7 (.take 8 (.take 9 (.alt 10 (.take 11 (.take 12 (.take 13 (.take 14 (.take 15 .done))))) .done))))))))))) (Exists.intro [] (Exists.intro [] (And.intro rfl ?_)))
  refine And.intro trivial ?_
  obtain ⟨q2_10, hq2_10, hF⟩ := bindE hF
  refine Or.inr ⟨ext3 add64, [q2_10.1, q2_10.2], add64_ok, And.intro (ext3I hq2_10) ?_⟩
  refine Or.inl ?_
  refine Or.inl ?_
  refine Exists.intro (.take 0 (.take 1 (.take 2 (.take 3 (.take 4 (.take 5 (.take 6 (.take 7 (.take 8 (.take 9 (.take 10 (.take 11 (.take 12 (.alt 13 .done .done)))))))))))))) (Exists.intro [(13, [0])] (Exists.intro [] (And.intro rfl ?_)))
  refine And.intro (by decide) ?_
  refine And.intro trivial ?_
  refine Or.inl ?_
  have hy := someE hF
  subst hy
  refine And.intro rfl (Exists.intro [] (Exists.intro [] (Exists.intro [] (Exists.intro [] (Exists.intro [(0, some 0)] (And.intro rfl (And.intro trivial (And.intro rfl trivial))))))))
theorem C36_holds : C36.Holds Try.prog 36 := holds_of_vc tab_ok mixed (fn := Try.f36) (by kernel_rfl) rfl C36 (fun x y hF => C36_vc x.1 x.2.1 x.2.2.1 x.2.2.2.1 x.2.2.2.2 y hF)
theorem f36_in : ∃ fn, Try.prog.funcs[36]? = some fn ∧ fn.body.isSome = true ∧ (fn.name == "runtime.NumGoroutine") = false := ⟨Try.f36, by kernel_rfl, by kernel_rfl, by kernel_rfl⟩
end Go.Proofs
namespace Go.Proofs
open Go.AM
-- carousel/wide.down
def f100 (a : Int × Int) (n : Int) : Option (Int × Int × Int × Int) :=
  bif (decide (n ≥ (64 : Int))) then
    guardF (0 ≤ (IntKind.i64.wrap (n - (64 : Int)))) <|
    guardF (0 ≤ (IntKind.i64.wrap ((64 : Int) - (IntKind.i64.wrap (n - (64 : Int)))))) <|
    guardF (0 ≤ (IntKind.i64.wrap (n - (64 : Int)))) <|
    guardF (0 ≤ (IntKind.i64.wrap ((64 : Int) - (IntKind.i64.wrap (n - (64 : Int)))))) <|
    some ((Int.fdiv a.1 (2 ^ min (Int.toNat (63 : Int)) (IntKind.bits IntKind.i64))), (IntKind.u64.wrap (Int.fdiv a.1 (2 ^ min (Int.toNat (IntKind.i64.wrap (n - (64 : Int)))) (IntKind.bits IntKind.i64)))), (bitsOf IntKind.u64 (fun p q => p ||| q) (IntKind.u64.wrap ((IntKind.u64.wrap a.1) * 2 ^ min (Int.toNat (IntKind.i64.wrap ((64 : Int) - (IntKind.i64.wrap (n - (64 : Int)))))) (IntKind.bits IntKind.u64))) (Int.fdiv a.2 (2 ^ min (Int.toNat (IntKind.i64.wrap (n - (64 : Int)))) (IntKind.bits IntKind.u64)))), (IntKind.u64.wrap (a.2 * 2 ^ min (Int.toNat (IntKind.i64.wrap ((64 : Int) - (IntKind.i64.wrap (n - (64 : Int)))))) (IntKind.bits IntKind.u64))))
  else
    guardF (0 ≤ n) <|
    guardF (0 ≤ (IntKind.i64.wrap ((64 : Int) - n))) <|
    guardF (0 ≤ n) <|
    guardF (0 ≤ (IntKind.i64.wrap ((64 : Int) - n))) <|
    some ((Int.fdiv a.1 (2 ^ min (Int.toNat n) (IntKind.bits IntKind.i64))), (bitsOf IntKind.u64 (fun p q => p ||| q) (IntKind.u64.wrap ((IntKind.u64.wrap a.1) * 2 ^ min (Int.toNat (IntKind.i64.wrap ((64 : Int) - n))) (IntKind.bits IntKind.u64))) (Int.fdiv a.2 (2 ^ min (Int.toNat n) (IntKind.bits IntKind.u64)))), (IntKind.u64.wrap (a.2 * 2 ^ min (Int.toNat (IntKind.i64.wrap ((64 : Int) - n))) (IntKind.bits IntKind.u64))), (0 : Int))
def C100 : Con where
  X := (Int × Int) × Int
  Y := Int × Int × Int × Int
  e := 0
  args x := [.dat (.p (.int .i64) (.int .u64)) x.1, .dat (.int .i64) x.2]
  hin x := []
  F x := f100 x.1 x.2
  ret y := [.raw true [(.d (.int .i64) y.1), (.d (.int .u64) y.2.1)], .dat (.int .u64) y.2.2.1, .dat (.int .u64) y.2.2.2]
  hout y := []
  nout := 0
theorem C100_vc (a : Int × Int) (n : Int) (y : Int × Int × Int × Int) (hF : f100 a n = some y) : vc Try.prog tab Try.f100.ntmps 0 (match Try.f100.body with | some c => c | none => .skip) (retK tab C100 Try.f100.results.toList y) (C100.shIn (a, n)).st := by
  unfold f100 at hF
  refine Or.inl ?_
  refine Or.inl ?_
  refine Exists.intro (.take 0 (.take 1 (.take 2 (.take 3 (.take 4 (.take 5 (.take 6 .done))))))) (Exists.intro [] (Exists.intro [] (And.intro rfl ?_)))
  refine Or.inl ?_
  refine Or.inl ?_
  refine condI hF (fun hF => ?_) (fun hF => ?_)
  · refine Or.inl ?_
    refine Or.inl ?_
    refine Exists.intro (.take 0 (.take 1 (.take 2 (.take 3 (.take 4 (.take 5 (.take 6 (.take 7 (.take 8 (.alt 9 (.alt 10 .done .done) .done)))))))))) (Exists.intro [] (Exists.intro [] (And.intro rfl ?_)))
    refine And.intro (by decide) ?_
    refine guardI hF (fun hF => ?_)
    refine And.intro trivial ?_
    refine And.intro trivial ?_
    refine Or.inl ?_
    refine Or.inl ?_
    refine Exists.intro (.take 0 (.take 1 (.take 2 (.take 3 (.take 4 (.take 5 (.take 6 (.take 7 (.take 8 (.take 9 (.take 10 (.take 11 (.take 12 (.alt 13 (.take 14 (.take 15 .done)) .done)))))))))))))) (Exists.intro [] (Exists.intro [] (And.intro rfl ?_)))
    refine guardI hF (fun hF => ?_)
    refine guardI hF (fun hF => ?_)
    refine guardI hF (fun hF => ?_)
    refine And.intro trivial ?_
    refine Or.inl ?_
    have hy := someE hF
    subst hy
    refine And.intro rfl (Exists.intro [] (Exists.intro [] (Exists.intro [] (Exists.intro [] (Exists.intro [] (And.intro rfl (And.intro rfl (And.intro rfl (And.intro (And.intro rfl trivial) trivial)))))))))
  · refine Or.inl ?_
    refine Exists.intro (.take 0 (.take 1 (.take 2 (.take 3 (.take 4 (.take 5 (.take 6 (.take 7 (.take 8 (.take 9 (.take 10 (.take 11 (.take 12 (.take 13 (.take 14 (.take 15 (.take 16 (.alt 17 (.take 18 (.take 19 .done)) .done)))))))))))))))))) (Exists.intro [] (Exists.intro [] (And.intro rfl ?_)))
    refine guardI hF (fun hF => ?_)
    refine guardI hF (fun hF => ?_)
    refine guardI hF (fun hF => ?_)
    refine guardI hF (fun hF => ?_)
    refine And.intro trivial ?_
    refine Or.inl ?_
    have hy := someE hF
    subst hy
    refine And.intro rfl (Exists.intro [] (Exists.intro [] (Exists.intro [] (Exists.intro [] (Exists.intro [] (And.intro rfl (And.intro rfl (And.intro rfl (And.intro (And.intro rfl trivial) trivial)))))))))
theorem C100_holds : C100.Holds Try.prog 100 := holds_of_vc tab_ok mixed (fn := Try.f100) (by kernel_rfl) rfl C100 (fun x y hF => C100_vc x.1 x.2 y hF)
theorem f100_in : ∃ fn, Try.prog.funcs[100]? = some fn ∧ fn.body.isSome = true ∧ (fn.name == "runtime.NumGoroutine") = false := ⟨Try.f100, by kernel_rfl, by kernel_rfl, by kernel_rfl⟩
end Go.Proofs
namespace Go.Proofs
open Go.AM
-- carousel/wide.Of
def f52 (n : Int) : Option (Int × Int) :=
  some ((Int.fdiv n (2 ^ min (Int.toNat (63 : Int)) (IntKind.bits IntKind.i64))), (IntKind.u64.wrap n))
def C52 : Con where
  X := Int
  Y := Int × Int
  e := 0
  args x := [.dat (.int .i64) x]
  hin x := []
  F x := f52 x
  ret y := [.raw true [(.d (.int .i64) y.1), (.d (.int .u64) y.2)]]
  hout y := []
  nout := 0
theorem C52_vc (n : Int) (y : Int × Int) (hF : f52 n = some y) : vc Try.prog tab Try.f52.ntmps 0 (match Try.f52.body with | some c => c | none => .skip) (retK tab C52 Try.f52.results.toList y) (C52.shIn n).st := by
  unfold f52 at hF
  refine Or.inl ?_
  refine Or.inl ?_
  refine And.intro (by decide) ?_
  refine Or.inl ?_
  have hy := someE hF
  subst hy
  refine And.intro rfl (Exists.intro [] (Exists.intro [] (Exists.intro [] (Exists.intro [] (Exists.intro [] (And.intro rfl (And.intro (And.intro rfl trivial) trivial)))))))
theorem C52_holds : C52.Holds Try.prog 52 := holds_of_vc tab_ok mixed (fn := Try.f52) (by kernel_rfl) rfl C52 (fun x y hF => C52_vc x y hF)
theorem f52_in : ∃ fn, Try.prog.funcs[52]? = some fn ∧ fn.body.isSome = true ∧ (fn.name == "runtime.NumGoroutine") = false := ⟨Try.f52, by kernel_rfl, by kernel_rfl, by kernel_rfl⟩
end Go.Proofs
namespace Go.Proofs
open Go.AM
-- carousel/wide.Add
def f51 (a : Int × Int) (b : Int × Int) : Option (Int × Int) :=
  bindF (add64 a.2 b.2 (0 : Int)) fun r1 =>
  bindF (add64 (IntKind.u64.wrap a.1) (IntKind.u64.wrap b.1) r1.2) fun r2 =>
  some ((IntKind.i64.wrap r2.1), r1.1)
def C51 : Con where
  X := (Int × Int) × (Int × Int)
  Y := Int × Int
  e := 0
  args x := [.dat (.p (.int .i64) (.int .u64)) x.1, .dat (.p (.int .i64) (.int .u64)) x.2]
  hin x := []
  F x := f51 x.1 x.2
  ret y := [.raw true [(.d (.int .i64) y.1), (.d (.int .u64) y.2)]]
  hout y := []
  nout := 0
theorem C51_vc (a : Int × Int) (b : Int × Int) (y : Int × Int) (hF : f51 a b = some y) : vc Try.prog tab Try.f51.ntmps 0 (match Try.f51.body with | some c => c | none => .skip) (retK tab C51 Try.f51.results.toList y) (C51.shIn (a, b)).st := by
  unfold f51 at hF
  refine Or.inl ?_
  refine Or.inl ?_
  obtain ⟨r1, hr1, hF⟩ := bindE hF
  refine Or.inr ⟨ext3 add64, [r1.1, r1.2], add64_ok, And.intro (ext3I hr1) ?_⟩
  refine Or.inl ?_
  obtain ⟨r2, hr2, hF⟩ := bindE hF
  refine Or.inr ⟨ext3 add64, [r2.1, r2.2], add64_ok, And.intro (ext3I hr2) ?_⟩
  refine Or.inl ?_
  refine Or.inl ?_
  have hy := someE hF
  subst hy
  refine And.intro rfl (Exists.intro [] (Exists.intro [] (Exists.intro [] (Exists.intro [] (Exists.intro [] (And.intro rfl (And.intro (And.intro rfl trivial) trivial)))))))
theorem C51_holds : C51.Holds Try.prog 51 := holds_of_vc tab_ok mixed (fn := Try.f51) (by kernel_rfl) rfl C51 (fun x y hF => C51_vc x.1 x.2 y hF)
theorem f51_in : ∃ fn, Try.prog.funcs[51]? = some fn ∧ fn.body.isSome = true ∧ (fn.name == "runtime.NumGoroutine") = false := ⟨Try.f51, by kernel_rfl, by kernel_rfl, by kernel_rfl⟩
end Go.Proofs
namespace Go.Proofs
open Go.AM
-- carousel/wide.Shift
def f68_j1 (n : Int) : Option (Sum Unit Unit) :=
  bif (decide (n < (1 : Int))) then
    some (Sum.inr ())
  else
    bif (decide (n > (126 : Int))) then
      some (Sum.inr ())
    else
      some (Sum.inl ())
def f68_j2 (q5_3 : Int × Int × Int × Int) : Option Bool :=
  bif (decide (q5_3.2.2.1 > (9223372036854775808 : Int))) then
    some true
  else
    bif (q5_3.2.2.1 == (9223372036854775808 : Int)) then
      bif (decide (q5_3.2.2.2 > (0 : Int))) then
        some true
      else
        some ((bitsOf IntKind.u64 (fun p q => p &&& q) q5_3.2.1 (1 : Int)) == (1 : Int))
    else
      some false
def f68 (a : Int × Int) (n : Int) : Option (Int × Int) :=
  bindF (f68_j1 n) fun z1 =>
  sumF z1 (fun z1a =>
    bindF (f100 (a.1, a.2) n) fun q5_3 =>
    bindF (f68_j2 q5_3) fun z2 =>
    bif z2 then
      bindF (f52 (1 : Int)) fun q5_1 =>
      bindF (f51 (q5_3.1, q5_3.2.1) (q5_1.1, q5_1.2)) fun q5_2 =>
      some (q5_2.1, q5_2.2)
    else
      some (q5_3.1, q5_3.2.1)) (fun z1b =>
    some (a.1, a.2))
def C68 : Con where
  X := (Int × Int) × Int
  Y := Int × Int
  e := 0
  args x := [.dat (.p (.int .i64) (.int .u64)) x.1, .dat (.int .i64) x.2]
  hin x := []
  F x := f68 x.1 x.2
  ret y := [.raw true [(.d (.int .i64) y.1), (.d (.int .u64) y.2)]]
  hout y := []
  nout := 0
theorem C68_vc (a : Int × Int) (n : Int) (y : Int × Int) (hF : f68 a n = some y) : vc Try.prog tab Try.f68.ntmps 0 (match Try.f68.body with | some c => c | none => .skip) (retK tab C68 Try.f68.results.toList y) (C68.shIn (a, n)).st := by
  unfold f68 at hF
  refine Or.inl ?_
  obtain ⟨z1, hz1, hF⟩ := bindE hF
  refine Or.inr ⟨Sum.elim (fun z1a => [(0, ⟨[(1, .dat (.int .i64) n), (2, .raw false [(.ptr 0 0)]), (4, .raw false [(.ptr 1 0)])], [(0, .cells [(.d (.int .i64) a.1), (.d (.int .u64) a.2)]), (1, .cells [(.d (.int .i64) (0 : Int)), (.d (.int .u64) (0 : Int))])], 2⟩)]) (fun z1b => [(1, ⟨[(4, .raw false [(.ptr 0 0)])], [(0, .cells [(.d (.int .i64) a.1), (.d (.int .u64) a.2)])], 1⟩)]) z1, ?_, ?_⟩
  · have hF := hz1
    clear hz1
    unfold f68_j1 at hF
    refine Or.inl ?_
    refine condN hF (fun hF => ?_) (fun hF => ?_)
    · refine gdYF ?_
      refine condF ?_
      refine condI hF (fun hF => ?_) (fun hF => ?_)
      · refine Or.inl ?_
        refine Or.inl ?_
        have hz := someE hF
        subst hz
        refine Exists.intro [] (Exists.intro [] (Exists.intro [] (Exists.intro [] (Exists.intro [(0, some 1)] (And.intro rfl (And.intro (And.intro rfl trivial) (And.intro rfl trivial)))))))
      · have hz := someE hF
        subst hz
        refine Exists.intro [] (Exists.intro [] (Exists.intro [] (Exists.intro [] (Exists.intro [(0, some 0), (1, some 1)] (And.intro rfl (And.intro rfl (And.intro (And.intro rfl (And.intro rfl trivial)) (And.intro rfl (And.intro rfl trivial)))))))))
    · refine gdNF ?_
      refine condT ?_
      refine condT ?_
      refine Or.inl ?_
      refine Or.inl ?_
      have hz := someE hF
      subst hz
      refine Exists.intro [] (Exists.intro [] (Exists.intro [] (Exists.intro [] (Exists.intro [(0, some 1)] (And.intro rfl (And.intro (And.intro rfl trivial) (And.intro rfl trivial)))))))
  · rcases z1 with z1a | z1b
    · dsimp only [sumF] at hF
      refine And.intro ?_ trivial
      refine Or.inl ?_
      obtain ⟨q5_3, hq5_3, hF⟩ := bindE hF
      refine Or.inl (And.intro f100_in (callV0 (callI C100 ((a.1, a.2), n) q5_3 [] false C100_holds hq5_3 rfl rfl ?_)))
      refine (And.intro rfl (And.intro rfl (And.intro rfl (And.intro (fun h => nomatch h) (And.intro rfl (And.intro rfl (And.intro trivial (And.intro trivial ?_))))))))
      refine Or.inl ?_
      refine Or.inl ?_
      obtain ⟨z2, hz2, hF⟩ := bindE hF
      refine Or.inr ⟨[(0, ⟨[(4, .raw false [(.ptr 0 0)]), (5, .raw false [(.ptr 1 0)]), (37, .dat .bool z2)], [(0, .cells [(.d (.int .i64) (0 : Int)), (.d (.int .u64) (0 : Int))]), (1, .cells [(.d (.int .i64) q5_3.1), (.d (.int .u64) q5_3.2.1)])], 2⟩)], ?_, ?_⟩
      · have hF := hz2
        clear hz2
        unfold f68_j2 at hF
        refine condN hF (fun hF => ?_) (fun hF => ?_)
        · refine gdYF ?_
          refine gdYF ?_
          refine condI hF (fun hF => ?_) (fun hF => ?_)
          · refine gdYT ?_
            refine gdYT ?_
            refine condN hF (fun hF => ?_) (fun hF => ?_)
            · refine gdYF ?_
              refine gdYF ?_
              refine gdYF ?_
              refine gdYT ?_
              refine condF ?_
              refine gdYF ?_
              refine condT ?_
              refine condF ?_
              have hz := someE hF
              subst hz
              refine Exists.intro [] (Exists.intro [] (Exists.intro [] (Exists.intro [] (Exists.intro [(0, some 1), (1, some 2)] (And.intro rfl (And.intro rfl (And.intro (And.intro rfl (And.intro rfl trivial)) (And.intro rfl (And.intro rfl trivial)))))))))
            · refine gdNF ?_
              refine gdNF ?_
              refine gdNF ?_
              refine gdYT ?_
              refine condT ?_
              refine gdYF ?_
              refine condT ?_
              refine condF ?_
              have hz := someE hF
              subst hz
              refine Exists.intro [] (Exists.intro [] (Exists.intro [] (Exists.intro [] (Exists.intro [(0, some 1), (1, some 2)] (And.intro rfl (And.intro rfl (And.intro (And.intro rfl (And.intro rfl trivial)) (And.intro rfl (And.intro rfl trivial)))))))))
          · refine gdNT ?_
            refine gdNT ?_
            refine gdNT ?_
            refine gdYF ?_
            refine condF ?_
            refine condF ?_
            have hz := someE hF
            subst hz
            refine Exists.intro [] (Exists.intro [] (Exists.intro [] (Exists.intro [] (Exists.intro [(0, some 1), (1, some 2)] (And.intro rfl (And.intro rfl (And.intro (And.intro rfl (And.intro rfl trivial)) (And.intro rfl (And.intro rfl trivial)))))))))
        · refine gdNF ?_
          refine gdNF ?_
          refine gdNF ?_
          refine condT ?_
          have hz := someE hF
          subst hz
          refine Exists.intro [] (Exists.intro [] (Exists.intro [] (Exists.intro [] (Exists.intro [(0, some 1), (1, some 2)] (And.intro rfl (And.intro rfl (And.intro (And.intro rfl (And.intro rfl trivial)) (And.intro rfl (And.intro rfl trivial)))))))))
      · refine And.intro ?_ trivial
        refine condI hF (fun hF => ?_) (fun hF => ?_)
        · refine Or.inl ?_
          refine Exists.intro (.take 0 (.alt 1 (.alt 2 (.alt 3 .done .done) .done) .done)) (Exists.intro [] (Exists.intro [] (And.intro rfl ?_)))
          refine And.intro trivial ?_
          obtain ⟨q5_1, hq5_1, hF⟩ := bindE hF
          refine Or.inl (And.intro f52_in (callV0 (callI C52 (1 : Int) q5_1 [] false C52_holds hq5_1 rfl rfl ?_)))
          refine (And.intro rfl (And.intro (fun h => nomatch h) (And.intro rfl (And.intro rfl (And.intro trivial (And.intro trivial ?_))))))
          refine And.intro trivial ?_
          obtain ⟨q5_2, hq5_2, hF⟩ := bindE hF
          refine Or.inl (And.intro f51_in (callV0 (callI C51 ((q5_3.1, q5_3.2.1), (q5_1.1, q5_1.2)) q5_2 [] false C51_holds hq5_2 rfl rfl ?_)))
          refine (And.intro rfl (And.intro rfl (And.intro rfl (And.intro rfl (And.intro (fun h => nomatch h) (And.intro rfl (And.intro rfl (And.intro trivial (And.intro trivial ?_)))))))))
          refine And.intro trivial ?_
          refine Or.inl ?_
          have hy := someE hF
          subst hy
          refine And.intro rfl (Exists.intro [] (Exists.intro [] (Exists.intro [] (Exists.intro [] (Exists.intro [] (And.intro rfl (And.intro (And.intro rfl trivial) trivial)))))))
        · refine Or.inl ?_
          refine Or.inl ?_
          have hy := someE hF
          subst hy
          refine And.intro rfl (Exists.intro [] (Exists.intro [] (Exists.intro [] (Exists.intro [] (Exists.intro [] (And.intro rfl (And.intro (And.intro rfl trivial) trivial)))))))
    · dsimp only [sumF] at hF
      refine And.intro ?_ trivial
      have hy := someE hF
      subst hy
      refine And.intro rfl (Exists.intro [] (Exists.intro [] (Exists.intro [] (Exists.intro [] (Exists.intro [] (And.intro rfl (And.intro (And.intro rfl trivial) trivial)))))))
theorem C68_holds : C68.Holds Try.prog 68 := holds_of_vc tab_ok mixed (fn := Try.f68) (by kernel_rfl) rfl C68 (fun x y hF => C68_vc x.1 x.2 y hF)
theorem f68_in : ∃ fn, Try.prog.funcs[68]? = some fn ∧ fn.body.isSome = true ∧ (fn.name == "runtime.NumGoroutine") = false := ⟨Try.f68, by kernel_rfl, by kernel_rfl, by kernel_rfl⟩
end Go.Proofs
