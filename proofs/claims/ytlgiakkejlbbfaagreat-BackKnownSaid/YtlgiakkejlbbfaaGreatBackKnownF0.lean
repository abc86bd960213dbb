import Derived.Test.YtlgiakkejlbbfaaGreatFb
set_option linter.unusedVariables false
set_option maxRecDepth 100000
set_option maxHeartbeats 8000000
namespace Go.Proofs
open Go.AM
-- carousel/tape.New
def f13 : Option Unit :=
  some ()
def C13 : Con where
  X := Unit
  Y := Unit
  e := 0
  args x := []
  hin x := []
  F x := f13
  ret y := [.raw false [(.ptr 0 0)]]
  hout y := [(0, .cells [(.osl 1)]), (1, .arr 74 (.p (.int .i64) (.p (.int .i64) (.p (.int .i64) (.p (.int .i64) (.p (.sl (.int .i64)) (.sl (.int .i64))))))) ([]))]
  nout := 2
theorem C13_vc (y : Unit) (hF : f13 = some y) : vc Tryz.prog tab Tryz.f13.ntmps 0 (match Tryz.f13.body with | some c => c | none => .skip) (retK tab C13 Tryz.f13.results.toList y) (C13.shIn ()).st := by
  unfold f13 at hF
  refine Or.inl ?_
  refine Or.inl ?_
  have hy := someE hF
  subst hy
  refine And.intro rfl (Exists.intro [] (Exists.intro [] (Exists.intro [] (Exists.intro [] (Exists.intro [(0, some 0), (1, none)] (And.intro rfl (And.intro (And.intro rfl trivial) (And.intro rfl (And.intro rfl trivial)))))))))
theorem C13_holds : C13.Holds Tryz.prog 13 := holds_of_vc tab_ok mixed (fn := Tryz.f13) (by kernel_rfl) rfl C13 (fun x y hF => C13_vc y hF)
theorem f13_in : ∃ fn, Tryz.prog.funcs[13]? = some fn ∧ fn.body.isSome = true ∧ (fn.name == "runtime.NumGoroutine") = false := ⟨Tryz.f13, by kernel_rfl, by kernel_rfl, by kernel_rfl⟩
end Go.Proofs
namespace Go.Proofs
open Go.AM
-- carousel/carousellaw11.row
def f15 (v : List Int) : Option ((List Int) × (List Int)) :=
  some (v, [(List.length v : Int)])
def C15 : Con where
  X := List Int
  Y := (List Int) × (List Int)
  e := 0
  args x := [.dat (.sl (.int .i64)) x]
  hin x := []
  F x := f15 x
  ret y := [.raw true [(.osl 0), (.d (.sl (.int .i64)) y.1)]]
  hout y := [(0, .arr 3 (.int .i64) y.2)]
  nout := 1
theorem C15_vc (v : List Int) (y : (List Int) × (List Int)) (hF : f15 v = some y) : vc Tryz.prog tab Tryz.f15.ntmps 0 (match Tryz.f15.body with | some c => c | none => .skip) (retK tab C15 Tryz.f15.results.toList y) (C15.shIn v).st := by
  unfold f15 at hF
  refine Or.inl ?_
  refine Or.inl ?_
  refine Or.inl ?_
  refine Or.inl ?_
  have hy := someE hF
  subst hy
  refine And.intro rfl (Exists.intro [] (Exists.intro [] (Exists.intro [] (Exists.intro [] (Exists.intro [(0, some 1)] (And.intro rfl (And.intro (And.intro rfl trivial) (And.intro rfl trivial))))))))
theorem C15_holds : C15.Holds Tryz.prog 15 := holds_of_vc tab_ok mixed (fn := Tryz.f15) (by kernel_rfl) rfl C15 (fun x y hF => C15_vc x y hF)
theorem f15_in : ∃ fn, Tryz.prog.funcs[15]? = some fn ∧ fn.body.isSome = true ∧ (fn.name == "runtime.NumGoroutine") = false := ⟨Tryz.f15, by kernel_rfl, by kernel_rfl, by kernel_rfl⟩
end Go.Proofs
namespace Go.Proofs
open Go.AM
-- carousel/shape.product
def f122_j4 (d : List Int) (v11 : Int) : Option (Sum Unit Unit) :=
  bif (decide ((rd (0 : Int) d v11) < (1 : Int))) then
    some (Sum.inr ())
  else
    bif (decide ((rd (0 : Int) d v11) > (4096 : Int))) then
      some (Sum.inr ())
    else
      some (Sum.inl ())
def f122_l3 (d : List Int) (go : (Int × Int) → Option (Sum Unit Int)) (n : Int) (v11 : Int) : Option (Sum Unit Int) :=
  bif (decide (v11 < (List.length d : Int))) then
    guardF (0 ≤ v11 ∧ v11 < (List.length d : Int)) <|
    bindF (f122_j4 d v11) fun z4 =>
    sumF z4 (fun z4a =>
      bif (decide ((IntKind.i64.wrap (n * (rd (0 : Int) d v11))) > (4096 : Int))) then
        some (Sum.inl ())
      else
        go ((IntKind.i64.wrap (n * (rd (0 : Int) d v11))), (IntKind.i64.wrap (v11 + (1 : Int))))) (fun z4b =>
      some (Sum.inl ()))
  else
    some (Sum.inr n)
def f122 (d : List Int) : Option Int :=
  bif (decide ((List.length d : Int) > (4 : Int))) then
    some (0 : Int)
  else
    bindF (loopF (fun go x => f122_l3 d go x.1 x.2) fuelN ((1 : Int), (0 : Int))) fun z3 =>
    sumF z3 (fun z3a =>
      some (0 : Int)) (fun z3b =>
      some z3b)
def C122 : Con where
  X := List Int
  Y := Int
  e := 0
  args x := [.dat (.sl (.int .i64)) x]
  hin x := []
  F x := f122 x
  ret y := [.dat (.int .i64) y]
  hout y := []
  nout := 0
theorem C122_vc (d : List Int) (y : Int) (hF : f122 d = some y) : vc Tryz.prog tab Tryz.f122.ntmps 0 (match Tryz.f122.body with | some c => c | none => .skip) (retK tab C122 Tryz.f122.results.toList y) (C122.shIn d).st := by
  unfold f122 at hF
  refine Or.inl ?_
  refine Or.inl ?_
  refine Or.inl ?_
  refine condI hF (fun hF => ?_) (fun hF => ?_)
  · refine Or.inl ?_
    have hy := someE hF
    subst hy
    refine And.intro rfl (Exists.intro [] (Exists.intro [] (Exists.intro [] (Exists.intro [] (Exists.intro [] (And.intro rfl (And.intro rfl (And.intro trivial trivial))))))))
  · refine Or.inl ?_
    refine Or.inl ?_
    refine Or.inl ?_
    obtain ⟨z3, hz3, hF⟩ := bindE hF
    refine loopI (Int × Int) (Sum Unit Int) (fun x => ⟨[(3, .dat (.int .i64) x.1), (9, .dat (.sl (.int .i64)) d), (10, .dat (.int .i64) (List.length d : Int)), (11, .dat (.int .i64) x.2)], [], 0⟩) (fun z => Sum.elim (fun za => [(1, ⟨[(2, .dat (.int .i64) (0 : Int))], [], 0⟩)]) (fun zb => [(2, ⟨[(3, .dat (.int .i64) zb)], [], 0⟩)]) z) (loopF (fun go x => f122_l3 d go x.1 x.2)) fuelN ((1 : Int), (0 : Int)) z3 (And.intro hz3 (And.intro (Exists.intro [] (Exists.intro [] (Exists.intro [] (Exists.intro [] (Exists.intro [] (And.intro rfl (And.intro rfl (And.intro rfl (And.intro rfl (And.intro rfl (And.intro trivial trivial))))))))))) (And.intro (fun _ _ h => loopZ h) (And.intro (fun m => curI (fun n => fun v11 z hF => ?_)) ?_))))
    · have hF : f122_l3 d (loopF (fun go x => f122_l3 d go x.1 x.2) m) n v11 = some z := hF
      unfold f122_l3 at hF
      refine Or.inl ?_
      refine Or.inl ?_
      refine condI hF (fun hF => ?_) (fun hF => ?_)
      · refine Or.inl ?_
        refine Or.inl ?_
        refine guardI hF (fun hF => ?_)
        obtain ⟨z4, hz4, hF⟩ := bindE hF
        refine Or.inr ⟨Sum.elim (fun z4a => [(0, ⟨[(3, .dat (.int .i64) n), (5, .dat (.int .i64) (rd (0 : Int) d v11)), (9, .dat (.sl (.int .i64)) d), (10, .dat (.int .i64) (List.length d : Int)), (11, .dat (.int .i64) v11)], [], 0⟩)]) (fun z4b => [(1, ⟨[(2, .dat (.int .i64) (0 : Int))], [], 0⟩)]) z4, ?_, ?_⟩
        · have hF := hz4
          clear hz4
          unfold f122_j4 at hF
          refine Or.inl ?_
          refine condN hF (fun hF => ?_) (fun hF => ?_)
          · refine gdYF ?_
            refine condF ?_
            refine condI hF (fun hF => ?_) (fun hF => ?_)
            · refine Or.inl ?_
              have hz := someE hF
              subst hz
              refine Exists.intro [] (Exists.intro [] (Exists.intro [] (Exists.intro [] (Exists.intro [] (And.intro rfl (And.intro rfl (And.intro trivial trivial)))))))
            · have hz := someE hF
              subst hz
              refine Exists.intro [] (Exists.intro [] (Exists.intro [] (Exists.intro [] (Exists.intro [] (And.intro rfl (And.intro rfl (And.intro rfl (And.intro rfl (And.intro rfl (And.intro rfl (And.intro trivial trivial)))))))))))
          · refine gdNF ?_
            refine condT ?_
            refine condT ?_
            refine Or.inl ?_
            have hz := someE hF
            subst hz
            refine Exists.intro [] (Exists.intro [] (Exists.intro [] (Exists.intro [] (Exists.intro [] (And.intro rfl (And.intro rfl (And.intro trivial trivial)))))))
        · rcases z4 with z4a | z4b
          · dsimp only [sumF] at hF
            refine And.intro ?_ trivial
            refine Or.inl ?_
            refine Or.inl ?_
            refine condI hF (fun hF => ?_) (fun hF => ?_)
            · refine Or.inl ?_
              have hz := someE hF
              subst hz
              refine Exists.intro [] (Exists.intro [] (Exists.intro [] (Exists.intro [] (Exists.intro [] (And.intro rfl (And.intro rfl (And.intro trivial trivial)))))))
            · refine Exists.intro ((IntKind.i64.wrap (n * (rd (0 : Int) d v11))), (IntKind.i64.wrap (v11 + (1 : Int)))) (And.intro hF (Exists.intro [] (Exists.intro [] (Exists.intro [] (Exists.intro [] (Exists.intro [] (And.intro rfl (And.intro rfl (And.intro rfl (And.intro rfl (And.intro rfl (And.intro trivial trivial))))))))))))
          · dsimp only [sumF] at hF
            refine And.intro ?_ trivial
            have hz := someE hF
            subst hz
            refine Exists.intro [] (Exists.intro [] (Exists.intro [] (Exists.intro [] (Exists.intro [] (And.intro rfl (And.intro rfl (And.intro trivial trivial)))))))
      · have hz := someE hF
        subst hz
        refine Exists.intro [] (Exists.intro [] (Exists.intro [] (Exists.intro [] (Exists.intro [] (And.intro rfl (And.intro rfl (And.intro trivial trivial)))))))
    · rcases z3 with z3a | z3b
      · dsimp only [sumF] at hF
        refine And.intro ?_ trivial
        have hy := someE hF
        subst hy
        refine And.intro rfl (Exists.intro [] (Exists.intro [] (Exists.intro [] (Exists.intro [] (Exists.intro [] (And.intro rfl (And.intro rfl (And.intro trivial trivial))))))))
      · dsimp only [sumF] at hF
        refine And.intro ?_ trivial
        refine Or.inl ?_
        have hy := someE hF
        subst hy
        refine And.intro rfl (Exists.intro [] (Exists.intro [] (Exists.intro [] (Exists.intro [] (Exists.intro [] (And.intro rfl (And.intro rfl (And.intro trivial trivial))))))))
theorem C122_holds : C122.Holds Tryz.prog 122 := holds_of_vc tab_ok mixed (fn := Tryz.f122) (by kernel_rfl) rfl C122 (fun x y hF => C122_vc x y hF)
theorem f122_in : ∃ fn, Tryz.prog.funcs[122]? = some fn ∧ fn.body.isSome = true ∧ (fn.name == "runtime.NumGoroutine") = false := ⟨Tryz.f122, by kernel_rfl, by kernel_rfl, by kernel_rfl⟩
end Go.Proofs
namespace Go.Proofs
open Go.AM
-- carousel/shape.Good
def f76 (d : List Int) : Option Bool :=
  bindF (f122 d) fun r1 =>
  some (decide (r1 > (0 : Int)))
def C76 : Con where
  X := List Int
  Y := Bool
  e := 0
  args x := [.dat (.sl (.int .i64)) x]
  hin x := []
  F x := f76 x
  ret y := [.dat .bool y]
  hout y := []
  nout := 0
theorem C76_vc (d : List Int) (y : Bool) (hF : f76 d = some y) : vc Tryz.prog tab Tryz.f76.ntmps 0 (match Tryz.f76.body with | some c => c | none => .skip) (retK tab C76 Tryz.f76.results.toList y) (C76.shIn d).st := by
  unfold f76 at hF
  refine Or.inl ?_
  refine Or.inl ?_
  obtain ⟨r1, hr1, hF⟩ := bindE hF
  refine Or.inl (And.intro f122_in (callV0 (callI C122 d r1 [] false C122_holds hr1 rfl rfl ?_)))
  refine (And.intro rfl (And.intro (fun h => nomatch h) (And.intro rfl (And.intro rfl (And.intro trivial (And.intro trivial ?_))))))
  have hy := someE hF
  subst hy
  refine And.intro rfl (Exists.intro [] (Exists.intro [] (Exists.intro [] (Exists.intro [] (Exists.intro [] (And.intro rfl (And.intro rfl (And.intro trivial trivial))))))))
theorem C76_holds : C76.Holds Tryz.prog 76 := holds_of_vc tab_ok mixed (fn := Tryz.f76) (by kernel_rfl) rfl C76 (fun x y hF => C76_vc x y hF)
theorem f76_in : ∃ fn, Tryz.prog.funcs[76]? = some fn ∧ fn.body.isSome = true ∧ (fn.name == "runtime.NumGoroutine") = false := ⟨Tryz.f76, by kernel_rfl, by kernel_rfl, by kernel_rfl⟩
end Go.Proofs
namespace Go.Proofs
open Go.AM
-- carousel/shape.Size
def f77 (d : List Int) : Option Int :=
  bindF (f122 d) fun r1 =>
  some r1
def C77 : Con where
  X := List Int
  Y := Int
  e := 0
  args x := [.dat (.sl (.int .i64)) x]
  hin x := []
  F x := f77 x
  ret y := [.dat (.int .i64) y]
  hout y := []
  nout := 0
theorem C77_vc (d : List Int) (y : Int) (hF : f77 d = some y) : vc Tryz.prog tab Tryz.f77.ntmps 0 (match Tryz.f77.body with | some c => c | none => .skip) (retK tab C77 Tryz.f77.results.toList y) (C77.shIn d).st := by
  unfold f77 at hF
  refine Or.inl ?_
  refine Or.inl ?_
  obtain ⟨r1, hr1, hF⟩ := bindE hF
  refine Or.inl (And.intro f122_in (callV0 (callI C122 d r1 [] false C122_holds hr1 rfl rfl ?_)))
  refine (And.intro rfl (And.intro (fun h => nomatch h) (And.intro rfl (And.intro rfl (And.intro trivial (And.intro trivial ?_))))))
  have hy := someE hF
  subst hy
  refine And.intro rfl (Exists.intro [] (Exists.intro [] (Exists.intro [] (Exists.intro [] (Exists.intro [] (And.intro rfl (And.intro rfl (And.intro trivial trivial))))))))
theorem C77_holds : C77.Holds Tryz.prog 77 := holds_of_vc tab_ok mixed (fn := Tryz.f77) (by kernel_rfl) rfl C77 (fun x y hF => C77_vc x y hF)
theorem f77_in : ∃ fn, Tryz.prog.funcs[77]? = some fn ∧ fn.body.isSome = true ∧ (fn.name == "runtime.NumGoroutine") = false := ⟨Tryz.f77, by kernel_rfl, by kernel_rfl, by kernel_rfl⟩
end Go.Proofs
namespace Go.Proofs
open Go.AM
-- carousel/tens.Good
def f33 (t : (List Int) × (List Int)) : Option Bool :=
  bindF (f76 t.1) fun q1_2 =>
  bif q1_2 then
    bindF (f77 t.1) fun q1_9 =>
    some ((List.length t.2 : Int) == q1_9)
  else
    some false
def C33 : Con where
  X := (List Int) × (List Int)
  Y := Bool
  e := 0
  args x := [.dat (.p (.sl (.int .i64)) (.sl (.int .i64))) x]
  hin x := []
  F x := f33 x
  ret y := [.dat .bool y]
  hout y := []
  nout := 0
theorem C33_vc (t : (List Int) × (List Int)) (y : Bool) (hF : f33 t = some y) : vc Tryz.prog tab Tryz.f33.ntmps 0 (match Tryz.f33.body with | some c => c | none => .skip) (retK tab C33 Tryz.f33.results.toList y) (C33.shIn t).st := by
  unfold f33 at hF
  refine Or.inl ?_
  refine Or.inl ?_
  refine Exists.intro (.take 0 (.take 1 (.alt 2 (.take 3 (.take 4 (.take 5 (.take 6 (.take 7 (.take 8 (.alt 9 (.take 10 (.take 11 (.take 12 .done))) .done))))))) .done))) (Exists.intro [] (Exists.intro [] (And.intro rfl ?_)))
  refine And.intro trivial ?_
  obtain ⟨q1_2, hq1_2, hF⟩ := bindE hF
  refine Or.inl (And.intro f76_in (callV0 (callI C76 t.1 q1_2 [] false C76_holds hq1_2 rfl rfl ?_)))
  refine (And.intro rfl (And.intro (fun h => nomatch h) (And.intro rfl (And.intro rfl (And.intro trivial (And.intro trivial ?_))))))
  refine condI hF (fun hF => ?_) (fun hF => ?_)
  · refine gdYT ?_
    refine gdYT ?_
    refine gdYT ?_
    refine gdYT ?_
    refine And.intro trivial ?_
    refine gdYT ?_
    obtain ⟨q1_9, hq1_9, hF⟩ := bindE hF
    refine Or.inl (And.intro f77_in (callV0 (callI C77 t.1 q1_9 [] false C77_holds hq1_9 rfl rfl ?_)))
    refine (And.intro rfl (And.intro (fun h => nomatch h) (And.intro rfl (And.intro rfl (And.intro trivial (And.intro trivial ?_))))))
    refine gdYT ?_
    refine condT ?_
    have hy := someE hF
    subst hy
    refine And.intro rfl (Exists.intro [] (Exists.intro [] (Exists.intro [] (Exists.intro [] (Exists.intro [] (And.intro rfl (And.intro rfl (And.intro trivial trivial))))))))
  · refine gdNT ?_
    refine gdNT ?_
    refine gdNT ?_
    refine gdNT ?_
    refine And.intro trivial ?_
    refine gdNT ?_
    refine gdNT ?_
    refine condF ?_
    have hy := someE hF
    subst hy
    refine And.intro rfl (Exists.intro [] (Exists.intro [] (Exists.intro [] (Exists.intro [] (Exists.intro [] (And.intro rfl (And.intro rfl (And.intro trivial trivial))))))))
theorem C33_holds : C33.Holds Tryz.prog 33 := holds_of_vc tab_ok mixed (fn := Tryz.f33) (by kernel_rfl) rfl C33 (fun x y hF => C33_vc x y hF)
theorem f33_in : ∃ fn, Tryz.prog.funcs[33]? = some fn ∧ fn.body.isSome = true ∧ (fn.name == "runtime.NumGoroutine") = false := ⟨Tryz.f33, by kernel_rfl, by kernel_rfl, by kernel_rfl⟩
end Go.Proofs
namespace Go.Proofs
open Go.AM
-- slices.Clone[[]int,int]
def f78 (s : List Int) : Option (List Int) :=
  nilF s
    (some ([]))
    (guardF ((List.length ([] : List Int) + List.length s) * 8 ≤ 140737488355328) <|
     some (([] : List Int) ++ s))
def C78 : Con where
  X := List Int
  Y := List Int
  e := 0
  args x := [.dat (.sl (.int .i64)) x]
  hin x := []
  F x := f78 x
  ret y := [.raw false [(.osl 0)]]
  hout y := [(0, .arr 3 (.int .i64) y)]
  nout := 1
theorem C78_vc (s : List Int) (y : List Int) (hF : f78 s = some y) : vc Tryz.prog tab Tryz.f78.ntmps 0 (match Tryz.f78.body with | some c => c | none => .skip) (retK tab C78 Tryz.f78.results.toList y) (C78.shIn s).st := by
  unfold f78 at hF
  refine Or.inl ?_
  refine Or.inl ?_
  refine Or.inl ?_
  refine nilI hF (fun hF => ?_) (fun hF => ?_)
  · refine condT ?_
    refine Or.inl ?_
    have hy := someE hF
    subst hy
    refine And.intro rfl (Exists.intro [] (Exists.intro [] (Exists.intro [] (Exists.intro [] (Exists.intro [(0, none)] (And.intro rfl (And.intro (And.intro rfl trivial) (And.intro rfl trivial))))))))
  · refine condF ?_
    refine Or.inl ?_
    refine Or.inl ?_
    refine Or.inl ?_
    refine guardI hF (fun hF => ?_)
    have hy := someE hF
    subst hy
    refine And.intro rfl (Exists.intro [] (Exists.intro [] (Exists.intro [] (Exists.intro [] (Exists.intro [(0, some 1)] (And.intro rfl (And.intro (And.intro rfl trivial) (And.intro rfl trivial))))))))
theorem C78_holds : C78.Holds Tryz.prog 78 := holds_of_vc tab_ok mixed (fn := Tryz.f78) (by kernel_rfl) rfl C78 (fun x y hF => C78_vc x y hF)
theorem f78_in : ∃ fn, Tryz.prog.funcs[78]? = some fn ∧ fn.body.isSome = true ∧ (fn.name == "runtime.NumGoroutine") = false := ⟨Tryz.f78, by kernel_rfl, by kernel_rfl, by kernel_rfl⟩
end Go.Proofs
namespace Go.Proofs
open Go.AM
-- slices.Clone[[]carousel/api.Fix,carousel/api.Fix]
def f79 (s : List Int) : Option (List Int) :=
  nilF s
    (some ([]))
    (guardF ((List.length ([] : List Int) + List.length s) * 8 ≤ 140737488355328) <|
     some (([] : List Int) ++ s))
def C79 : Con where
  X := List Int
  Y := List Int
  e := 0
  args x := [.dat (.sl (.int .i64)) x]
  hin x := []
  F x := f79 x
  ret y := [.raw false [(.osl 0)]]
  hout y := [(0, .arr 33 (.int .i64) y)]
  nout := 1
theorem C79_vc (s : List Int) (y : List Int) (hF : f79 s = some y) : vc Tryz.prog tab Tryz.f79.ntmps 0 (match Tryz.f79.body with | some c => c | none => .skip) (retK tab C79 Tryz.f79.results.toList y) (C79.shIn s).st := by
  unfold f79 at hF
  refine Or.inl ?_
  refine Or.inl ?_
  refine Or.inl ?_
  refine nilI hF (fun hF => ?_) (fun hF => ?_)
  · refine condT ?_
    refine Or.inl ?_
    have hy := someE hF
    subst hy
    refine And.intro rfl (Exists.intro [] (Exists.intro [] (Exists.intro [] (Exists.intro [] (Exists.intro [(0, none)] (And.intro rfl (And.intro (And.intro rfl trivial) (And.intro rfl trivial))))))))
  · refine condF ?_
    refine Or.inl ?_
    refine Or.inl ?_
    refine Or.inl ?_
    refine guardI hF (fun hF => ?_)
    have hy := someE hF
    subst hy
    refine And.intro rfl (Exists.intro [] (Exists.intro [] (Exists.intro [] (Exists.intro [] (Exists.intro [(0, some 1)] (And.intro rfl (And.intro (And.intro rfl trivial) (And.intro rfl trivial))))))))
theorem C79_holds : C79.Holds Tryz.prog 79 := holds_of_vc tab_ok mixed (fn := Tryz.f79) (by kernel_rfl) rfl C79 (fun x y hF => C79_vc x y hF)
theorem f79_in : ∃ fn, Tryz.prog.funcs[79]? = some fn ∧ fn.body.isSome = true ∧ (fn.name == "runtime.NumGoroutine") = false := ⟨Tryz.f79, by kernel_rfl, by kernel_rfl, by kernel_rfl⟩
end Go.Proofs
namespace Go.Proofs
open Go.AM
-- carousel/tens.Copy
def f35 (t : (List Int) × (List Int)) : Option ((List Int) × (List Int)) :=
  bindF (f78 t.1) fun q1_2 =>
  bindF (f79 t.2) fun q1_5 =>
  some (q1_2, q1_5)
def C35 : Con where
  X := (List Int) × (List Int)
  Y := (List Int) × (List Int)
  e := 0
  args x := [.dat (.p (.sl (.int .i64)) (.sl (.int .i64))) x]
  hin x := []
  F x := f35 x
  ret y := [.raw true [(.osl 0), (.osl 1)]]
  hout y := [(0, .arr 3 (.int .i64) y.1), (1, .arr 33 (.int .i64) y.2)]
  nout := 2
theorem C35_vc (t : (List Int) × (List Int)) (y : (List Int) × (List Int)) (hF : f35 t = some y) : vc Tryz.prog tab Tryz.f35.ntmps 0 (match Tryz.f35.body with | some c => c | none => .skip) (retK tab C35 Tryz.f35.results.toList y) (C35.shIn t).st := by
  unfold f35 at hF
  refine Or.inl ?_
  refine Or.inl ?_
  refine Exists.intro (.take 0 (.take 1 (.take 3 (.take 4 (.alt 2 (.alt 5 (.take 6 (.alt 7 .done .done)) .done) .done))))) (Exists.intro [] (Exists.intro [] (And.intro rfl ?_)))
  refine And.intro trivial ?_
  obtain ⟨q1_2, hq1_2, hF⟩ := bindE hF
  refine Or.inl (And.intro f78_in (callV0 (callI C78 t.1 q1_2 [] false C78_holds hq1_2 rfl rfl ?_)))
  refine (And.intro rfl (And.intro (fun h => nomatch h) (And.intro rfl (And.intro rfl (And.intro trivial (And.intro trivial ?_))))))
  refine And.intro trivial ?_
  obtain ⟨q1_5, hq1_5, hF⟩ := bindE hF
  refine Or.inl (And.intro f79_in (callV0 (callI C79 t.2 q1_5 [] false C79_holds hq1_5 rfl rfl ?_)))
  refine (And.intro rfl (And.intro (fun h => nomatch h) (And.intro rfl (And.intro rfl (And.intro trivial (And.intro trivial ?_))))))
  refine And.intro trivial ?_
  refine Or.inl ?_
  have hy := someE hF
  subst hy
  refine And.intro rfl (Exists.intro [] (Exists.intro [] (Exists.intro [] (Exists.intro [] (Exists.intro [(0, some 2), (1, some 3)] (And.intro rfl (And.intro (And.intro rfl trivial) (And.intro rfl (And.intro rfl trivial)))))))))
theorem C35_holds : C35.Holds Tryz.prog 35 := holds_of_vc tab_ok mixed (fn := Tryz.f35) (by kernel_rfl) rfl C35 (fun x y hF => C35_vc x y hF)
theorem f35_in : ∃ fn, Tryz.prog.funcs[35]? = some fn ∧ fn.body.isSome = true ∧ (fn.name == "runtime.NumGoroutine") = false := ⟨Tryz.f35, by kernel_rfl, by kernel_rfl, by kernel_rfl⟩
end Go.Proofs
namespace Go.Proofs
open Go.AM
-- (*carousel/tape.Tape).add
def f34 (t_l : List (Int × Int × Int × Int × (List Int) × (List Int))) (n : Int × Int × Int × Int × (List Int) × (List Int)) : Option (Int × (List (Int × Int × Int × Int × (List Int) × (List Int)))) :=
  guardF ((List.length t_l + List.length ([(n.1, n.2.1, n.2.2.1, n.2.2.2.1, n.2.2.2.2.1, n.2.2.2.2.2)])) * 80 ≤ 140737488355328) <|
  some ((IntKind.i64.wrap ((List.length (t_l ++ ([(n.1, n.2.1, n.2.2.1, n.2.2.2.1, n.2.2.2.2.1, n.2.2.2.2.2)])) : Int) - (1 : Int))), (t_l ++ ([(n.1, n.2.1, n.2.2.1, n.2.2.2.1, n.2.2.2.2.1, n.2.2.2.2.2)])))
def C34 : Con where
  X := (List (Int × Int × Int × Int × (List Int) × (List Int))) × (Int × Int × Int × Int × (List Int) × (List Int))
  Y := Int × (List (Int × Int × Int × Int × (List Int) × (List Int)))
  e := 2
  args x := [.raw false [(.ptr 0 0)], .dat (.p (.int .i64) (.p (.int .i64) (.p (.int .i64) (.p (.int .i64) (.p (.sl (.int .i64)) (.sl (.int .i64))))))) x.2]
  hin x := [(0, .cells [(.osl 1)]), (1, .arr 74 (.p (.int .i64) (.p (.int .i64) (.p (.int .i64) (.p (.int .i64) (.p (.sl (.int .i64)) (.sl (.int .i64))))))) x.1)]
  F x := f34 x.1 x.2
  ret y := [.dat (.int .i64) y.1, .dat (.int .i64) (0 : Int)]
  hout y := [(0, .cells [(.osl 2)]), (2, .arr 74 (.p (.int .i64) (.p (.int .i64) (.p (.int .i64) (.p (.int .i64) (.p (.sl (.int .i64)) (.sl (.int .i64))))))) y.2)]
  nout := 3
theorem C34_vc (t_l : List (Int × Int × Int × Int × (List Int) × (List Int))) (n : Int × Int × Int × Int × (List Int) × (List Int)) (y : Int × (List (Int × Int × Int × Int × (List Int) × (List Int)))) (hF : f34 t_l n = some y) : vc Tryz.prog tab Tryz.f34.ntmps 2 (match Tryz.f34.body with | some c => c | none => .skip) (retK tab C34 Tryz.f34.results.toList y) (C34.shIn (t_l, n)).st := by
  unfold f34 at hF
  refine Or.inl ?_
  refine Or.inl ?_
  refine Exists.intro (.take 0 (.take 1 (.take 2 (.take 3 (.take 4 (.take 5 (.alt 6 (.alt 7 (.take 8 (.take 9 (.alt 10 .done .done))) .done) .done))))))) (Exists.intro [(10, [0])] (Exists.intro [] (And.intro rfl ?_)))
  refine And.intro trivial ?_
  refine Or.inl ?_
  refine And.intro trivial ?_
  refine Or.inl ?_
  refine guardI hF (fun hF => ?_)
  refine And.intro trivial ?_
  refine Or.inl ?_
  refine Or.inl ?_
  have hy := someE hF
  subst hy
  refine And.intro rfl (Exists.intro [] (Exists.intro [] (Exists.intro [] (Exists.intro [] (Exists.intro [(0, some 0), (2, some 4)] (And.intro rfl (And.intro rfl (And.intro rfl (And.intro trivial (And.intro rfl (And.intro rfl trivial)))))))))))
theorem C34_holds : C34.Holds Tryz.prog 34 := holds_of_vc tab_ok mixed (fn := Tryz.f34) (by kernel_rfl) rfl C34 (fun x y hF => C34_vc x.1 x.2 y hF)
theorem f34_in : ∃ fn, Tryz.prog.funcs[34]? = some fn ∧ fn.body.isSome = true ∧ (fn.name == "runtime.NumGoroutine") = false := ⟨Tryz.f34, by kernel_rfl, by kernel_rfl, by kernel_rfl⟩
end Go.Proofs
namespace Go.Proofs
open Go.AM
-- (*carousel/tape.Tape).Leaf
def f14 (t_l : List (Int × Int × Int × Int × (List Int) × (List Int))) (x_ : (List Int) × (List Int)) : Option (Int × Int × (List (Int × Int × Int × Int × (List Int) × (List Int)))) :=
  bif (decide ((List.length t_l : Int) ≥ (512 : Int))) then
    some ((0 : Int), (2 : Int), t_l)
  else
    bindF (f33 (x_.1, x_.2)) fun r1 =>
    bif (!r1) then
      some ((0 : Int), (1 : Int), t_l)
    else
      bindF (f35 (x_.1, x_.2)) fun r2 =>
      bindF (f34 t_l ((1 : Int), (-1 : Int), (-1 : Int), (0 : Int), r2.1, r2.2)) fun r3 =>
      some (r3.1, (0 : Int), r3.2)
def C14 : Con where
  X := (List (Int × Int × Int × Int × (List Int) × (List Int))) × ((List Int) × (List Int))
  Y := Int × Int × (List (Int × Int × Int × Int × (List Int) × (List Int)))
  e := 2
  args x := [.raw false [(.ptr 0 0)], .dat (.p (.sl (.int .i64)) (.sl (.int .i64))) x.2]
  hin x := [(0, .cells [(.osl 1)]), (1, .arr 74 (.p (.int .i64) (.p (.int .i64) (.p (.int .i64) (.p (.int .i64) (.p (.sl (.int .i64)) (.sl (.int .i64))))))) x.1)]
  F x := f14 x.1 x.2
  ret y := [.dat (.int .i64) y.1, .dat (.int .i64) y.2.1]
  hout y := [(0, .cells [(.osl 2)]), (2, .arr 74 (.p (.int .i64) (.p (.int .i64) (.p (.int .i64) (.p (.int .i64) (.p (.sl (.int .i64)) (.sl (.int .i64))))))) y.2.2)]
  nout := 3
theorem C14_vc (t_l : List (Int × Int × Int × Int × (List Int) × (List Int))) (x_ : (List Int) × (List Int)) (y : Int × Int × (List (Int × Int × Int × Int × (List Int) × (List Int)))) (hF : f14 t_l x_ = some y) : vc Tryz.prog tab Tryz.f14.ntmps 2 (match Tryz.f14.body with | some c => c | none => .skip) (retK tab C14 Tryz.f14.results.toList y) (C14.shIn (t_l, x_)).st := by
  unfold f14 at hF
  refine Or.inl ?_
  refine Or.inl ?_
  refine Or.inl ?_
  refine condI hF (fun hF => ?_) (fun hF => ?_)
  · refine Or.inl ?_
    have hy := someE hF
    subst hy
    refine And.intro rfl (Exists.intro [] (Exists.intro [] (Exists.intro [] (Exists.intro [] (Exists.intro [(0, some 0), (2, some 1)] (And.intro rfl (And.intro rfl (And.intro rfl (And.intro trivial (And.intro rfl (And.intro rfl trivial)))))))))))
  · refine Or.inl ?_
    obtain ⟨r1, hr1, hF⟩ := bindE hF
    refine Or.inl (And.intro f33_in (callV0 (callI C33 (x_.1, x_.2) r1 [] false C33_holds hr1 rfl rfl ?_)))
    refine (And.intro rfl (And.intro rfl (And.intro (fun h => nomatch h) (And.intro rfl (And.intro rfl (And.intro trivial (And.intro trivial ?_)))))))
    refine condI hF (fun hF => ?_) (fun hF => ?_)
    · refine Or.inl ?_
      have hy := someE hF
      subst hy
      refine And.intro rfl (Exists.intro [] (Exists.intro [] (Exists.intro [] (Exists.intro [] (Exists.intro [(0, some 0), (2, some 1)] (And.intro rfl (And.intro rfl (And.intro rfl (And.intro trivial (And.intro rfl (And.intro rfl trivial)))))))))))
    · refine Or.inl ?_
      obtain ⟨r2, hr2, hF⟩ := bindE hF
      refine Or.inl (And.intro f35_in (callV0 (callI C35 (x_.1, x_.2) r2 [] false C35_holds hr2 rfl rfl ?_)))
      refine (And.intro rfl (And.intro rfl (And.intro (fun h => nomatch h) (And.intro rfl (And.intro rfl (And.intro trivial (And.intro trivial ?_)))))))
      obtain ⟨r3, hr3, hF⟩ := bindE hF
      have hr3 : C34.F (t_l, ((1 : Int), (-1 : Int), (-1 : Int), (0 : Int), r2.1, r2.2)) = some r3 := hr3
      refine Or.inl (And.intro f34_in (callV0 (callI C34 _ r3 [(0, some 0), (1, some 1)] false C34_holds hr3 rfl rfl ?_)))
      refine (And.intro rfl (And.intro rfl (And.intro (fun h => nomatch h) (And.intro rfl (And.intro rfl (And.intro (And.intro rfl trivial) (And.intro (And.intro rfl (And.intro rfl trivial)) ?_)))))))
      have hy := someE hF
      subst hy
      refine And.intro rfl (Exists.intro [] (Exists.intro [] (Exists.intro [] (Exists.intro [] (Exists.intro [(0, some 0), (2, some 7)] (And.intro rfl (And.intro rfl (And.intro rfl (And.intro trivial (And.intro rfl (And.intro rfl trivial)))))))))))
theorem C14_holds : C14.Holds Tryz.prog 14 := holds_of_vc tab_ok mixed (fn := Tryz.f14) (by kernel_rfl) rfl C14 (fun x y hF => C14_vc x.1 x.2 y hF)
theorem f14_in : ∃ fn, Tryz.prog.funcs[14]? = some fn ∧ fn.body.isSome = true ∧ (fn.name == "runtime.NumGoroutine") = false := ⟨Tryz.f14, by kernel_rfl, by kernel_rfl, by kernel_rfl⟩
end Go.Proofs
namespace Go.Proofs
open Go.AM
-- (*carousel/tape.Tape).has
def f39 (t_l : List (Int × Int × Int × Int × (List Int) × (List Int))) (n : Int) : Option (Bool × (List (Int × Int × Int × Int × (List Int) × (List Int)))) :=
  bif (decide (n ≥ (0 : Int))) then
    some ((decide (n < (List.length t_l : Int))), t_l)
  else
    some (false, t_l)
def C39 : Con where
  X := (List (Int × Int × Int × Int × (List Int) × (List Int))) × Int
  Y := Bool × (List (Int × Int × Int × Int × (List Int) × (List Int)))
  e := 2
  args x := [.raw false [(.ptr 0 0)], .dat (.int .i64) x.2]
  hin x := [(0, .cells [(.osl 1)]), (1, .arr 74 (.p (.int .i64) (.p (.int .i64) (.p (.int .i64) (.p (.int .i64) (.p (.sl (.int .i64)) (.sl (.int .i64))))))) x.1)]
  F x := f39 x.1 x.2
  ret y := [.dat .bool y.1]
  hout y := [(0, .cells [(.osl 1)]), (1, .arr 74 (.p (.int .i64) (.p (.int .i64) (.p (.int .i64) (.p (.int .i64) (.p (.sl (.int .i64)) (.sl (.int .i64))))))) y.2)]
  nout := 2
theorem C39_vc (t_l : List (Int × Int × Int × Int × (List Int) × (List Int))) (n : Int) (y : Bool × (List (Int × Int × Int × Int × (List Int) × (List Int)))) (hF : f39 t_l n = some y) : vc Tryz.prog tab Tryz.f39.ntmps 2 (match Tryz.f39.body with | some c => c | none => .skip) (retK tab C39 Tryz.f39.results.toList y) (C39.shIn (t_l, n)).st := by
  unfold f39 at hF
  refine Or.inl ?_
  refine Or.inl ?_
  refine condI hF (fun hF => ?_) (fun hF => ?_)
  · refine gdYT ?_
    refine gdYT ?_
    refine gdYT ?_
    refine gdYT ?_
    refine gdYT ?_
    refine gdYT ?_
    refine condT ?_
    have hy := someE hF
    subst hy
    refine And.intro rfl (Exists.intro [] (Exists.intro [] (Exists.intro [] (Exists.intro [] (Exists.intro [(0, some 0), (1, some 1)] (And.intro rfl (And.intro rfl (And.intro trivial (And.intro rfl (And.intro rfl trivial))))))))))
  · refine gdNT ?_
    refine gdNT ?_
    refine gdNT ?_
    refine gdNT ?_
    refine gdNT ?_
    refine gdNT ?_
    refine condF ?_
    have hy := someE hF
    subst hy
    refine And.intro rfl (Exists.intro [] (Exists.intro [] (Exists.intro [] (Exists.intro [] (Exists.intro [(0, some 0), (1, some 1)] (And.intro rfl (And.intro rfl (And.intro trivial (And.intro rfl (And.intro rfl trivial))))))))))
theorem C39_holds : C39.Holds Tryz.prog 39 := holds_of_vc tab_ok mixed (fn := Tryz.f39) (by kernel_rfl) rfl C39 (fun x y hF => C39_vc x.1 x.2 y hF)
theorem f39_in : ∃ fn, Tryz.prog.funcs[39]? = some fn ∧ fn.body.isSome = true ∧ (fn.name == "runtime.NumGoroutine") = false := ⟨Tryz.f39, by kernel_rfl, by kernel_rfl, by kernel_rfl⟩
end Go.Proofs
namespace Go.Proofs
open Go.AM
-- carousel/tape.two
def f40 (op : Int) : Option Bool :=
  bif (op == (2 : Int)) then
    some true
  else
    bif (op == (3 : Int)) then
      some true
    else
      bif (op == (4 : Int)) then
        some true
      else
        bif (op == (6 : Int)) then
          some true
        else
          some (op == (12 : Int))
def C40 : Con where
  X := Int
  Y := Bool
  e := 0
  args x := [.dat (.int .i64) x]
  hin x := []
  F x := f40 x
  ret y := [.dat .bool y]
  hout y := []
  nout := 0
theorem C40_vc (op : Int) (y : Bool) (hF : f40 op = some y) : vc Tryz.prog tab Tryz.f40.ntmps 0 (match Tryz.f40.body with | some c => c | none => .skip) (retK tab C40 Tryz.f40.results.toList y) (C40.shIn op).st := by
  unfold f40 at hF
  refine Or.inl ?_
  refine Or.inl ?_
  refine condN hF (fun hF => ?_) (fun hF => ?_)
  · refine gdYF ?_
    refine condF ?_
    refine condN hF (fun hF => ?_) (fun hF => ?_)
    · refine gdYF ?_
      refine condF ?_
      refine condN hF (fun hF => ?_) (fun hF => ?_)
      · refine gdYF ?_
        refine condF ?_
        refine condN hF (fun hF => ?_) (fun hF => ?_)
        · refine gdYF ?_
          refine condF ?_
          have hy := someE hF
          subst hy
          refine And.intro rfl (Exists.intro [] (Exists.intro [] (Exists.intro [] (Exists.intro [] (Exists.intro [] (And.intro rfl (And.intro rfl (And.intro trivial trivial))))))))
        · refine gdNF ?_
          refine condT ?_
          have hy := someE hF
          subst hy
          refine And.intro rfl (Exists.intro [] (Exists.intro [] (Exists.intro [] (Exists.intro [] (Exists.intro [] (And.intro rfl (And.intro rfl (And.intro trivial trivial))))))))
      · refine gdNF ?_
        refine condT ?_
        refine gdNF ?_
        refine gdNF ?_
        refine condT ?_
        have hy := someE hF
        subst hy
        refine And.intro rfl (Exists.intro [] (Exists.intro [] (Exists.intro [] (Exists.intro [] (Exists.intro [] (And.intro rfl (And.intro rfl (And.intro trivial trivial))))))))
    · refine gdNF ?_
      refine condT ?_
      refine gdNF ?_
      refine gdNF ?_
      refine condT ?_
      refine gdNF ?_
      refine gdNF ?_
      refine condT ?_
      have hy := someE hF
      subst hy
      refine And.intro rfl (Exists.intro [] (Exists.intro [] (Exists.intro [] (Exists.intro [] (Exists.intro [] (And.intro rfl (And.intro rfl (And.intro trivial trivial))))))))
  · refine gdNF ?_
    refine condT ?_
    refine gdNF ?_
    refine gdNF ?_
    refine condT ?_
    refine gdNF ?_
    refine gdNF ?_
    refine condT ?_
    refine gdNF ?_
    refine gdNF ?_
    refine condT ?_
    have hy := someE hF
    subst hy
    refine And.intro rfl (Exists.intro [] (Exists.intro [] (Exists.intro [] (Exists.intro [] (Exists.intro [] (And.intro rfl (And.intro rfl (And.intro trivial trivial))))))))
theorem C40_holds : C40.Holds Tryz.prog 40 := holds_of_vc tab_ok mixed (fn := Tryz.f40) (by kernel_rfl) rfl C40 (fun x y hF => C40_vc x y hF)
theorem f40_in : ∃ fn, Tryz.prog.funcs[40]? = some fn ∧ fn.body.isSome = true ∧ (fn.name == "runtime.NumGoroutine") = false := ⟨Tryz.f40, by kernel_rfl, by kernel_rfl, by kernel_rfl⟩
end Go.Proofs
namespace Go.Proofs
open Go.AM
-- carousel/tape.counts
def f41 (op : Int) : Option Bool :=
  bif (op == (5 : Int)) then
    some true
  else
    bif (op == (8 : Int)) then
      some true
    else
      bif (op == (11 : Int)) then
        some true
      else
        bif (op == (12 : Int)) then
          some true
        else
          some (op == (13 : Int))
def C41 : Con where
  X := Int
  Y := Bool
  e := 0
  args x := [.dat (.int .i64) x]
  hin x := []
  F x := f41 x
  ret y := [.dat .bool y]
  hout y := []
  nout := 0
theorem C41_vc (op : Int) (y : Bool) (hF : f41 op = some y) : vc Tryz.prog tab Tryz.f41.ntmps 0 (match Tryz.f41.body with | some c => c | none => .skip) (retK tab C41 Tryz.f41.results.toList y) (C41.shIn op).st := by
  unfold f41 at hF
  refine Or.inl ?_
  refine Or.inl ?_
  refine condN hF (fun hF => ?_) (fun hF => ?_)
  · refine gdYF ?_
    refine condF ?_
    refine condN hF (fun hF => ?_) (fun hF => ?_)
    · refine gdYF ?_
      refine condF ?_
      refine condN hF (fun hF => ?_) (fun hF => ?_)
      · refine gdYF ?_
        refine condF ?_
        refine condN hF (fun hF => ?_) (fun hF => ?_)
        · refine gdYF ?_
          refine condF ?_
          have hy := someE hF
          subst hy
          refine And.intro rfl (Exists.intro [] (Exists.intro [] (Exists.intro [] (Exists.intro [] (Exists.intro [] (And.intro rfl (And.intro rfl (And.intro trivial trivial))))))))
        · refine gdNF ?_
          refine condT ?_
          have hy := someE hF
          subst hy
          refine And.intro rfl (Exists.intro [] (Exists.intro [] (Exists.intro [] (Exists.intro [] (Exists.intro [] (And.intro rfl (And.intro rfl (And.intro trivial trivial))))))))
      · refine gdNF ?_
        refine condT ?_
        refine gdNF ?_
        refine gdNF ?_
        refine condT ?_
        have hy := someE hF
        subst hy
        refine And.intro rfl (Exists.intro [] (Exists.intro [] (Exists.intro [] (Exists.intro [] (Exists.intro [] (And.intro rfl (And.intro rfl (And.intro trivial trivial))))))))
    · refine gdNF ?_
      refine condT ?_
      refine gdNF ?_
      refine gdNF ?_
      refine condT ?_
      refine gdNF ?_
      refine gdNF ?_
      refine condT ?_
      have hy := someE hF
      subst hy
      refine And.intro rfl (Exists.intro [] (Exists.intro [] (Exists.intro [] (Exists.intro [] (Exists.intro [] (And.intro rfl (And.intro rfl (And.intro trivial trivial))))))))
  · refine gdNF ?_
    refine condT ?_
    refine gdNF ?_
    refine gdNF ?_
    refine condT ?_
    refine gdNF ?_
    refine gdNF ?_
    refine condT ?_
    refine gdNF ?_
    refine gdNF ?_
    refine condT ?_
    have hy := someE hF
    subst hy
    refine And.intro rfl (Exists.intro [] (Exists.intro [] (Exists.intro [] (Exists.intro [] (Exists.intro [] (And.intro rfl (And.intro rfl (And.intro trivial trivial))))))))
theorem C41_holds : C41.Holds Tryz.prog 41 := holds_of_vc tab_ok mixed (fn := Tryz.f41) (by kernel_rfl) rfl C41 (fun x y hF => C41_vc x y hF)
theorem f41_in : ∃ fn, Tryz.prog.funcs[41]? = some fn ∧ fn.body.isSome = true ∧ (fn.name == "runtime.NumGoroutine") = false := ⟨Tryz.f41, by kernel_rfl, by kernel_rfl, by kernel_rfl⟩
end Go.Proofs
namespace Go.Proofs
open Go.AM
-- carousel/shape.side
def f173 (d : List Int) (i : Int) : Option Int :=
  bif (decide (i ≥ (List.length d : Int))) then
    some (1 : Int)
  else
    guardF (0 ≤ (IntKind.i64.wrap ((IntKind.i64.wrap ((List.length d : Int) - (1 : Int))) - i)) ∧ (IntKind.i64.wrap ((IntKind.i64.wrap ((List.length d : Int) - (1 : Int))) - i)) < (List.length d : Int)) <|
    some (rd (0 : Int) d (IntKind.i64.wrap ((IntKind.i64.wrap ((List.length d : Int) - (1 : Int))) - i)))
def C173 : Con where
  X := (List Int) × Int
  Y := Int
  e := 0
  args x := [.dat (.sl (.int .i64)) x.1, .dat (.int .i64) x.2]
  hin x := []
  F x := f173 x.1 x.2
  ret y := [.dat (.int .i64) y]
  hout y := []
  nout := 0
theorem C173_vc (d : List Int) (i : Int) (y : Int) (hF : f173 d i = some y) : vc Tryz.prog tab Tryz.f173.ntmps 0 (match Tryz.f173.body with | some c => c | none => .skip) (retK tab C173 Tryz.f173.results.toList y) (C173.shIn (d, i)).st := by
  unfold f173 at hF
  refine Or.inl ?_
  refine Or.inl ?_
  refine Or.inl ?_
  refine condI hF (fun hF => ?_) (fun hF => ?_)
  · refine Or.inl ?_
    have hy := someE hF
    subst hy
    refine And.intro rfl (Exists.intro [] (Exists.intro [] (Exists.intro [] (Exists.intro [] (Exists.intro [] (And.intro rfl (And.intro rfl (And.intro trivial trivial))))))))
  · refine Or.inl ?_
    refine guardI hF (fun hF => ?_)
    have hy := someE hF
    subst hy
    refine And.intro rfl (Exists.intro [] (Exists.intro [] (Exists.intro [] (Exists.intro [] (Exists.intro [] (And.intro rfl (And.intro rfl (And.intro trivial trivial))))))))
theorem C173_holds : C173.Holds Tryz.prog 173 := holds_of_vc tab_ok mixed (fn := Tryz.f173) (by kernel_rfl) rfl C173 (fun x y hF => C173_vc x.1 x.2 y hF)
theorem f173_in : ∃ fn, Tryz.prog.funcs[173]? = some fn ∧ fn.body.isSome = true ∧ (fn.name == "runtime.NumGoroutine") = false := ⟨Tryz.f173, by kernel_rfl, by kernel_rfl, by kernel_rfl⟩
end Go.Proofs
namespace Go.Proofs
open Go.AM
-- carousel/shape.Join
def f142_j1 (a : List Int) (b : List Int) : Option (Sum Unit Unit) :=
  bindF (f76 a) fun r4 =>
  bif (!r4) then
    some (Sum.inr ())
  else
    bindF (f76 b) fun r5 =>
    bif (!r5) then
      some (Sum.inr ())
    else
      some (Sum.inl ())
def f142_j5 (r13 : Int) (r14 : Int) : Option (Sum Unit Unit) :=
  bif (r13 != r14) then
    bif (r13 != (1 : Int)) then
      bif (r14 != (1 : Int)) then
        some (Sum.inr ())
      else
        some (Sum.inl ())
    else
      some (Sum.inl ())
  else
    some (Sum.inl ())
def f142_l4 (a : List Int) (b : List Int) (go : (Int × (List Int)) → Option (Sum Unit (List Int))) (v26 : Int) (l0 : List Int) : Option (Sum Unit (List Int)) :=
  bif (decide (v26 < (List.length (List.replicate (Int.toNat (if (List.length b : Int) > (List.length a : Int) then (List.length b : Int) else (List.length a : Int))) (0 : Int)) : Int))) then
    bindF (f173 a v26) fun r13 =>
    bindF (f173 b v26) fun r14 =>
    bindF (f142_j5 r13 r14) fun z15 =>
    sumF z15 (fun z15a =>
      guardF (0 ≤ (IntKind.i64.wrap ((IntKind.i64.wrap ((List.length l0 : Int) - (1 : Int))) - v26)) ∧ (IntKind.i64.wrap ((IntKind.i64.wrap ((List.length l0 : Int) - (1 : Int))) - v26)) < (List.length l0 : Int)) <|
      go ((IntKind.i64.wrap (v26 + (1 : Int))), (List.set l0 (Int.toNat (IntKind.i64.wrap ((IntKind.i64.wrap ((List.length l0 : Int) - (1 : Int))) - v26))) (if r14 > r13 then r14 else r13)))) (fun z15b =>
      some (Sum.inl ()))
  else
    some (Sum.inr l0)
def f142 (a : List Int) (b : List Int) : Option (Int × (List Int)) :=
  bindF (f142_j1 a b) fun z3 =>
  sumF z3 (fun z3a =>
    guardF (0 ≤ (if (List.length b : Int) > (List.length a : Int) then (List.length b : Int) else (List.length a : Int)) ∧ (if (List.length b : Int) > (List.length a : Int) then (List.length b : Int) else (List.length a : Int)) ≤ (if (List.length b : Int) > (List.length a : Int) then (List.length b : Int) else (List.length a : Int)) ∧ Int.toNat (if (List.length b : Int) > (List.length a : Int) then (List.length b : Int) else (List.length a : Int)) * 8 ≤ 140737488355328) <|
    bindF (loopF (fun go x => f142_l4 a b go x.1 x.2) fuelN ((0 : Int), (List.replicate (Int.toNat (if (List.length b : Int) > (List.length a : Int) then (List.length b : Int) else (List.length a : Int))) (0 : Int)))) fun z12 =>
    sumF z12 (fun z12a =>
      some ((4 : Int), [])) (fun z12b =>
      bindF (f76 z12b) fun r16 =>
      bif (!r16) then
        some ((2 : Int), [])
      else
        some ((0 : Int), z12b))) (fun z3b =>
    some ((1 : Int), []))
def C142 : Con where
  X := (List Int) × (List Int)
  Y := Int × (List Int)
  e := 0
  args x := [.dat (.sl (.int .i64)) x.1, .dat (.sl (.int .i64)) x.2]
  hin x := []
  F x := f142 x.1 x.2
  ret y := [.raw false [(.osl 0)], .dat (.int .i64) y.1]
  hout y := [(0, .arr 3 (.int .i64) y.2)]
  nout := 1
theorem C142_vc (a : List Int) (b : List Int) (y : Int × (List Int)) (hF : f142 a b = some y) : vc Tryz.prog tab Tryz.f142.ntmps 0 (match Tryz.f142.body with | some c => c | none => .skip) (retK tab C142 Tryz.f142.results.toList y) (C142.shIn (a, b)).st := by
  unfold f142 at hF
  refine Or.inl ?_
  obtain ⟨z3, hz3, hF⟩ := bindE hF
  refine Or.inr ⟨Sum.elim (fun z3a => [(0, ⟨[(0, .dat (.sl (.int .i64)) a), (1, .dat (.sl (.int .i64)) b)], [], 0⟩)]) (fun z3b => [(1, ⟨[(4, .raw false [(.c (.slice none 0 0))]), (5, .dat (.int .i64) (1 : Int))], [], 0⟩)]) z3, ?_, ?_⟩
  · have hF := hz3
    clear hz3
    unfold f142_j1 at hF
    refine Or.inl ?_
    obtain ⟨r4, hr4, hF⟩ := bindE hF
    refine Or.inl (And.intro f76_in (callV0 (callI C76 a r4 [] false C76_holds hr4 rfl rfl ?_)))
    refine (And.intro rfl (And.intro (fun h => nomatch h) (And.intro rfl (And.intro rfl (And.intro trivial (And.intro trivial ?_))))))
    refine condN hF (fun hF => ?_) (fun hF => ?_)
    · refine gdYF ?_
      obtain ⟨r5, hr5, hF⟩ := bindE hF
      refine Or.inl (And.intro f76_in (callV0 (callI C76 b r5 [] false C76_holds hr5 rfl rfl ?_)))
      refine (And.intro rfl (And.intro (fun h => nomatch h) (And.intro rfl (And.intro rfl (And.intro trivial (And.intro trivial ?_))))))
      refine gdYF ?_
      refine condF ?_
      refine condI hF (fun hF => ?_) (fun hF => ?_)
      · refine Or.inl ?_
        have hz := someE hF
        subst hz
        refine Exists.intro [] (Exists.intro [] (Exists.intro [] (Exists.intro [] (Exists.intro [] (And.intro rfl (And.intro rfl (And.intro (And.intro rfl trivial) trivial)))))))
      · have hz := someE hF
        subst hz
        refine Exists.intro [] (Exists.intro [] (Exists.intro [] (Exists.intro [] (Exists.intro [] (And.intro rfl (And.intro rfl (And.intro rfl (And.intro trivial trivial))))))))
    · refine gdNF ?_
      refine gdNF ?_
      refine condT ?_
      refine condT ?_
      refine Or.inl ?_
      have hz := someE hF
      subst hz
      refine Exists.intro [] (Exists.intro [] (Exists.intro [] (Exists.intro [] (Exists.intro [] (And.intro rfl (And.intro rfl (And.intro (And.intro rfl trivial) trivial)))))))
  · rcases z3 with z3a | z3b
    · dsimp only [sumF] at hF
      refine And.intro ?_ trivial
      refine Or.inl ?_
      refine guardI hF (fun hF => ?_)
      refine Or.inl ?_
      refine Or.inl ?_
      obtain ⟨z12, hz12, hF⟩ := bindE hF
      refine loopI (Int × (List Int)) (Sum Unit (List Int)) (fun x => ⟨[(0, .dat (.sl (.int .i64)) a), (1, .dat (.sl (.int .i64)) b), (6, .raw false [(.osl 0)]), (25, .dat (.int .i64) (List.length (List.replicate (Int.toNat (if (List.length b : Int) > (List.length a : Int) then (List.length b : Int) else (List.length a : Int))) (0 : Int)) : Int)), (26, .dat (.int .i64) x.1)], [(0, .arr 3 (.int .i64) x.2)], 1⟩) (fun z => Sum.elim (fun za => [(1, ⟨[(4, .raw false [(.c (.slice none 0 0))]), (5, .dat (.int .i64) (4 : Int))], [], 0⟩)]) (fun zb => [(2, ⟨[(6, .raw false [(.osl 0)])], [(0, .arr 3 (.int .i64) zb)], 1⟩)]) z) (loopF (fun go x => f142_l4 a b go x.1 x.2)) fuelN ((0 : Int), (List.replicate (Int.toNat (if (List.length b : Int) > (List.length a : Int) then (List.length b : Int) else (List.length a : Int))) (0 : Int))) z12 (And.intro hz12 (And.intro (Exists.intro [] (Exists.intro [] (Exists.intro [] (Exists.intro [] (Exists.intro [(0, some 0)] (And.intro rfl (And.intro rfl (And.intro rfl (And.intro rfl (And.intro rfl (And.intro (And.intro rfl trivial) (And.intro rfl trivial)))))))))))) (And.intro (fun _ _ h => loopZ h) (And.intro (fun m => curI (fun v26 => fun l0 z hF => ?_)) ?_))))
      · have hF : f142_l4 a b (loopF (fun go x => f142_l4 a b go x.1 x.2) m) v26 l0 = some z := hF
        unfold f142_l4 at hF
        refine Or.inl ?_
        refine Or.inl ?_
        refine condI hF (fun hF => ?_) (fun hF => ?_)
        · refine Or.inl ?_
          refine Or.inl ?_
          refine Or.inl ?_
          obtain ⟨r13, hr13, hF⟩ := bindE hF
          refine Or.inl (And.intro f173_in (callV0 (callI C173 (a, v26) r13 [] false C173_holds hr13 rfl rfl ?_)))
          refine (And.intro rfl (And.intro rfl (And.intro (fun h => nomatch h) (And.intro rfl (And.intro rfl (And.intro trivial (And.intro trivial ?_)))))))
          obtain ⟨r14, hr14, hF⟩ := bindE hF
          refine Or.inl (And.intro f173_in (callV0 (callI C173 (b, v26) r14 [] false C173_holds hr14 rfl rfl ?_)))
          refine (And.intro rfl (And.intro rfl (And.intro (fun h => nomatch h) (And.intro rfl (And.intro rfl (And.intro trivial (And.intro trivial ?_)))))))
          obtain ⟨z15, hz15, hF⟩ := bindE hF
          refine Or.inr ⟨Sum.elim (fun z15a => [(0, ⟨[(0, .dat (.sl (.int .i64)) a), (1, .dat (.sl (.int .i64)) b), (6, .raw false [(.osl 0)]), (7, .dat (.int .i64) v26), (8, .dat (.int .i64) r13), (9, .dat (.int .i64) r14), (25, .dat (.int .i64) (List.length (List.replicate (Int.toNat (if (List.length b : Int) > (List.length a : Int) then (List.length b : Int) else (List.length a : Int))) (0 : Int)) : Int)), (26, .dat (.int .i64) v26)], [(0, .arr 3 (.int .i64) l0)], 1⟩)]) (fun z15b => [(1, ⟨[(4, .raw false [(.c (.slice none 0 0))]), (5, .dat (.int .i64) (4 : Int))], [], 0⟩)]) z15, ?_, ?_⟩
          · have hF := hz15
            clear hz15
            unfold f142_j5 at hF
            refine Or.inl ?_
            refine condI hF (fun hF => ?_) (fun hF => ?_)
            · refine gdYT ?_
              refine condT ?_
              refine condI hF (fun hF => ?_) (fun hF => ?_)
              · refine gdYT ?_
                refine condT ?_
                refine condI hF (fun hF => ?_) (fun hF => ?_)
                · refine Or.inl ?_
                  have hz := someE hF
                  subst hz
                  refine Exists.intro [] (Exists.intro [] (Exists.intro [] (Exists.intro [] (Exists.intro [] (And.intro rfl (And.intro rfl (And.intro (And.intro rfl trivial) trivial)))))))
                · have hz := someE hF
                  subst hz
                  refine Exists.intro [] (Exists.intro [] (Exists.intro [] (Exists.intro [] (Exists.intro [(0, some 0)] (And.intro rfl (And.intro rfl (And.intro rfl (And.intro rfl (And.intro rfl (And.intro rfl (And.intro rfl (And.intro rfl (And.intro (And.intro rfl trivial) (And.intro rfl trivial))))))))))))))
              · refine gdNT ?_
                refine condF ?_
                refine condF ?_
                have hz := someE hF
                subst hz
                refine Exists.intro [] (Exists.intro [] (Exists.intro [] (Exists.intro [] (Exists.intro [(0, some 0)] (And.intro rfl (And.intro rfl (And.intro rfl (And.intro rfl (And.intro rfl (And.intro rfl (And.intro rfl (And.intro rfl (And.intro (And.intro rfl trivial) (And.intro rfl trivial))))))))))))))
            · refine gdNT ?_
              refine condF ?_
              refine gdNT ?_
              refine gdNT ?_
              refine condF ?_
              refine condF ?_
              have hz := someE hF
              subst hz
              refine Exists.intro [] (Exists.intro [] (Exists.intro [] (Exists.intro [] (Exists.intro [(0, some 0)] (And.intro rfl (And.intro rfl (And.intro rfl (And.intro rfl (And.intro rfl (And.intro rfl (And.intro rfl (And.intro rfl (And.intro (And.intro rfl trivial) (And.intro rfl trivial))))))))))))))
          · rcases z15 with z15a | z15b
            · dsimp only [sumF] at hF
              refine And.intro ?_ trivial
              refine guardI hF (fun hF => ?_)
              refine Or.inl ?_
              refine Exists.intro ((IntKind.i64.wrap (v26 + (1 : Int))), (List.set l0 (Int.toNat (IntKind.i64.wrap ((IntKind.i64.wrap ((List.length l0 : Int) - (1 : Int))) - v26))) (if r14 > r13 then r14 else r13))) (And.intro hF (Exists.intro [] (Exists.intro [] (Exists.intro [] (Exists.intro [] (Exists.intro [(0, some 0)] (And.intro rfl (And.intro rfl (And.intro rfl (And.intro rfl (And.intro rfl (And.intro (And.intro rfl trivial) (And.intro rfl trivial)))))))))))))
            · dsimp only [sumF] at hF
              refine And.intro ?_ trivial
              have hz := someE hF
              subst hz
              refine Exists.intro [] (Exists.intro [] (Exists.intro [] (Exists.intro [] (Exists.intro [] (And.intro rfl (And.intro rfl (And.intro (And.intro rfl trivial) trivial)))))))
        · have hz := someE hF
          subst hz
          refine Exists.intro [] (Exists.intro [] (Exists.intro [] (Exists.intro [] (Exists.intro [(0, some 0)] (And.intro rfl (And.intro (And.intro rfl trivial) (And.intro rfl trivial)))))))
      · rcases z12 with z12a | z12b
        · dsimp only [sumF] at hF
          refine And.intro ?_ trivial
          have hy := someE hF
          subst hy
          refine And.intro rfl (Exists.intro [] (Exists.intro [] (Exists.intro [] (Exists.intro [] (Exists.intro [(0, none)] (And.intro rfl (And.intro rfl (And.intro (And.intro rfl trivial) (And.intro rfl trivial)))))))))
        · dsimp only [sumF] at hF
          refine And.intro ?_ trivial
          refine Or.inl ?_
          refine Or.inl ?_
          obtain ⟨r16, hr16, hF⟩ := bindE hF
          refine Or.inl (And.intro f76_in (callV0 (callI C76 z12b r16 [] true C76_holds hr16 rfl rfl ?_)))
          refine (And.intro rfl (And.intro (fun _ => rfl) (And.intro rfl (And.intro rfl (And.intro trivial (And.intro trivial ?_))))))
          refine condI hF (fun hF => ?_) (fun hF => ?_)
          · refine Or.inl ?_
            have hy := someE hF
            subst hy
            refine And.intro rfl (Exists.intro [] (Exists.intro [] (Exists.intro [] (Exists.intro [] (Exists.intro [(0, none)] (And.intro rfl (And.intro rfl (And.intro (And.intro rfl trivial) (And.intro rfl trivial)))))))))
          · refine Or.inl ?_
            have hy := someE hF
            subst hy
            refine And.intro rfl (Exists.intro [] (Exists.intro [] (Exists.intro [] (Exists.intro [] (Exists.intro [(0, some 0)] (And.intro rfl (And.intro rfl (And.intro (And.intro rfl trivial) (And.intro rfl trivial)))))))))
    · dsimp only [sumF] at hF
      refine And.intro ?_ trivial
      have hy := someE hF
      subst hy
      refine And.intro rfl (Exists.intro [] (Exists.intro [] (Exists.intro [] (Exists.intro [] (Exists.intro [(0, none)] (And.intro rfl (And.intro rfl (And.intro (And.intro rfl trivial) (And.intro rfl trivial)))))))))
theorem C142_holds : C142.Holds Tryz.prog 142 := holds_of_vc tab_ok mixed (fn := Tryz.f142) (by kernel_rfl) rfl C142 (fun x y hF => C142_vc x.1 x.2 y hF)
theorem f142_in : ∃ fn, Tryz.prog.funcs[142]? = some fn ∧ fn.body.isSome = true ∧ (fn.name == "runtime.NumGoroutine") = false := ⟨Tryz.f142, by kernel_rfl, by kernel_rfl, by kernel_rfl⟩
end Go.Proofs
namespace Go.Proofs
open Go.AM
-- math/bits.Mul64
def f164 (x_ : Int) (y_ : Int) : Option (Int × Int) :=
  some ((IntKind.u64.wrap ((IntKind.u64.wrap ((IntKind.u64.wrap ((Int.fdiv x_ (2 ^ min (Int.toNat (32 : Int)) (IntKind.bits IntKind.u64))) * (Int.fdiv y_ (2 ^ min (Int.toNat (32 : Int)) (IntKind.bits IntKind.u64))))) + (Int.fdiv (IntKind.u64.wrap ((IntKind.u64.wrap ((Int.fdiv x_ (2 ^ min (Int.toNat (32 : Int)) (IntKind.bits IntKind.u64))) * (bitsOf IntKind.u64 (fun p q => p &&& q) y_ (4294967295 : Int)))) + (Int.fdiv (IntKind.u64.wrap ((bitsOf IntKind.u64 (fun p q => p &&& q) x_ (4294967295 : Int)) * (bitsOf IntKind.u64 (fun p q => p &&& q) y_ (4294967295 : Int)))) (2 ^ min (Int.toNat (32 : Int)) (IntKind.bits IntKind.u64))))) (2 ^ min (Int.toNat (32 : Int)) (IntKind.bits IntKind.u64))))) + (Int.fdiv (IntKind.u64.wrap ((bitsOf IntKind.u64 (fun p q => p &&& q) (IntKind.u64.wrap ((IntKind.u64.wrap ((Int.fdiv x_ (2 ^ min (Int.toNat (32 : Int)) (IntKind.bits IntKind.u64))) * (bitsOf IntKind.u64 (fun p q => p &&& q) y_ (4294967295 : Int)))) + (Int.fdiv (IntKind.u64.wrap ((bitsOf IntKind.u64 (fun p q => p &&& q) x_ (4294967295 : Int)) * (bitsOf IntKind.u64 (fun p q => p &&& q) y_ (4294967295 : Int)))) (2 ^ min (Int.toNat (32 : Int)) (IntKind.bits IntKind.u64))))) (4294967295 : Int)) + (IntKind.u64.wrap ((bitsOf IntKind.u64 (fun p q => p &&& q) x_ (4294967295 : Int)) * (Int.fdiv y_ (2 ^ min (Int.toNat (32 : Int)) (IntKind.bits IntKind.u64))))))) (2 ^ min (Int.toNat (32 : Int)) (IntKind.bits IntKind.u64))))), (IntKind.u64.wrap (x_ * y_)))
def C164 : Con where
  X := Int × Int
  Y := Int × Int
  e := 0
  args x := [.dat (.int .u64) x.1, .dat (.int .u64) x.2]
  hin x := []
  F x := f164 x.1 x.2
  ret y := [.dat (.int .u64) y.1, .dat (.int .u64) y.2]
  hout y := []
  nout := 0
theorem C164_vc (x_ : Int) (y_ : Int) (y : Int × Int) (hF : f164 x_ y_ = some y) : vc Tryz.prog tab Tryz.f164.ntmps 0 (match Tryz.f164.body with | some c => c | none => .skip) (retK tab C164 Tryz.f164.results.toList y) (C164.shIn (x_, y_)).st := by
  unfold f164 at hF
  refine Or.inl ?_
  refine Or.inl ?_
  refine Or.inl ?_
  refine And.intro (by decide) ?_
  refine Or.inl ?_
  refine Or.inl ?_
  refine And.intro (by decide) ?_
  refine Or.inl ?_
  refine Or.inl ?_
  refine And.intro (by decide) ?_
  refine Or.inl ?_
  refine Or.inl ?_
  refine And.intro (by decide) ?_
  refine Or.inl ?_
  refine Or.inl ?_
  refine And.intro (by decide) ?_
  refine Or.inl ?_
  have hy := someE hF
  subst hy
  refine And.intro rfl (Exists.intro [] (Exists.intro [] (Exists.intro [] (Exists.intro [] (Exists.intro [] (And.intro rfl (And.intro rfl (And.intro rfl (And.intro trivial trivial)))))))))
theorem C164_holds : C164.Holds Tryz.prog 164 := holds_of_vc tab_ok mixed (fn := Tryz.f164) (by kernel_rfl) rfl C164 (fun x y hF => C164_vc x.1 x.2 y hF)
theorem f164_in : ∃ fn, Tryz.prog.funcs[164]? = some fn ∧ fn.body.isSome = true ∧ (fn.name == "runtime.NumGoroutine") = false := ⟨Tryz.f164, by kernel_rfl, by kernel_rfl, by kernel_rfl⟩
end Go.Proofs
namespace Go.Proofs
open Go.AM
-- math/bits.Mul
def f123 (x_ : Int) (y_ : Int) : Option (Int × Int) :=
  bindF (f164 x_ y_) fun r1 =>
  some (r1.1, r1.2)
def C123 : Con where
  X := Int × Int
  Y := Int × Int
  e := 0
  args x := [.dat (.int .u64) x.1, .dat (.int .u64) x.2]
  hin x := []
  F x := f123 x.1 x.2
  ret y := [.dat (.int .u64) y.1, .dat (.int .u64) y.2]
  hout y := []
  nout := 0
theorem C123_vc (x_ : Int) (y_ : Int) (y : Int × Int) (hF : f123 x_ y_ = some y) : vc Tryz.prog tab Tryz.f123.ntmps 0 (match Tryz.f123.body with | some c => c | none => .skip) (retK tab C123 Tryz.f123.results.toList y) (C123.shIn (x_, y_)).st := by
  unfold f123 at hF
  refine Or.inl ?_
  refine Or.inl ?_
  refine condF ?_
  refine Or.inl ?_
  obtain ⟨r1, hr1, hF⟩ := bindE hF
  refine Or.inl (And.intro f164_in (callV0 (callI C164 (x_, y_) r1 [] false C164_holds hr1 rfl rfl ?_)))
  refine (And.intro rfl (And.intro rfl (And.intro (fun h => nomatch h) (And.intro rfl (And.intro rfl (And.intro trivial (And.intro trivial ?_)))))))
  refine Or.inl ?_
  have hy := someE hF
  subst hy
  refine And.intro rfl (Exists.intro [] (Exists.intro [] (Exists.intro [] (Exists.intro [] (Exists.intro [] (And.intro rfl (And.intro rfl (And.intro rfl (And.intro trivial trivial)))))))))
theorem C123_holds : C123.Holds Tryz.prog 123 := holds_of_vc tab_ok mixed (fn := Tryz.f123) (by kernel_rfl) rfl C123 (fun x y hF => C123_vc x.1 x.2 y hF)
theorem f123_in : ∃ fn, Tryz.prog.funcs[123]? = some fn ∧ fn.body.isSome = true ∧ (fn.name == "runtime.NumGoroutine") = false := ⟨Tryz.f123, by kernel_rfl, by kernel_rfl, by kernel_rfl⟩
end Go.Proofs
namespace Go.Proofs
open Go.AM
-- slices.Repeat[[]carousel/api.Fix,carousel/api.Fix]
def f80_j1 (r1 : Int × Int) : Option Unit :=
  bif (decide (r1.1 > (0 : Int))) then
    none
  else
    bif (decide (r1.2 > (9223372036854775807 : Int))) then
      none
    else
      some ()
def f80_l2 (go : (Int × (List Int)) → Option (List Int)) (n : Int) (l0 : List Int) : Option (List Int) :=
  bif (decide (n < (List.length l0 : Int))) then
    guardF (0 ≤ n ∧ n ≤ (List.length l0 : Int)) <|
    guardF (0 ≤ n ∧ n ≤ (List.length l0 : Int)) <|
    go ((IntKind.i64.wrap (n + (List.length (List.take (Int.toNat (List.length l0 : Int) - Int.toNat n) (List.drop (Int.toNat (0 : Int)) (List.take (Int.toNat n) l0))) : Int))), (over l0 n (List.take (Int.toNat (List.length l0 : Int) - Int.toNat n) (List.drop (Int.toNat (0 : Int)) (List.take (Int.toNat n) l0)))))
  else
    some l0
def f80 (x_ : List Int) (count : Int) : Option (List Int) :=
  bif (decide (count < (0 : Int))) then
    none
  else
    bindF (f123 (IntKind.u64.wrap (List.length x_ : Int)) (IntKind.u64.wrap count)) fun r1 =>
    bindF (f80_j1 r1) fun z2 =>
    guardF (0 ≤ (IntKind.i64.wrap r1.2) ∧ (IntKind.i64.wrap r1.2) ≤ (IntKind.i64.wrap r1.2) ∧ Int.toNat (IntKind.i64.wrap r1.2) * 8 ≤ 140737488355328) <|
    bindF (loopF (fun go x => f80_l2 go x.1 x.2) fuelN ((List.length (List.take (Int.toNat (List.length (List.replicate (Int.toNat (IntKind.i64.wrap r1.2)) (0 : Int)) : Int) - Int.toNat (0 : Int)) x_) : Int), (over (List.replicate (Int.toNat (IntKind.i64.wrap r1.2)) (0 : Int)) (0 : Int) (List.take (Int.toNat (List.length (List.replicate (Int.toNat (IntKind.i64.wrap r1.2)) (0 : Int)) : Int) - Int.toNat (0 : Int)) x_)))) fun z3 =>
    some z3
def C80 : Con where
  X := (List Int) × Int
  Y := List Int
  e := 0
  args x := [.dat (.sl (.int .i64)) x.1, .dat (.int .i64) x.2]
  hin x := []
  F x := f80 x.1 x.2
  ret y := [.raw false [(.osl 0)]]
  hout y := [(0, .arr 33 (.int .i64) y)]
  nout := 1
theorem C80_vc (x_ : List Int) (count : Int) (y : List Int) (hF : f80 x_ count = some y) : vc Tryz.prog tab Tryz.f80.ntmps 0 (match Tryz.f80.body with | some c => c | none => .skip) (retK tab C80 Tryz.f80.results.toList y) (C80.shIn (x_, count)).st := by
  unfold f80 at hF
  refine Or.inl ?_
  refine Or.inl ?_
  refine Or.inl ?_
  refine condI hF (fun hF => ?_) (fun hF => ?_)
  · exact nomatch hF
  · refine Or.inl ?_
    obtain ⟨r1, hr1, hF⟩ := bindE hF
    refine Or.inl (And.intro f123_in (callV0 (callI C123 ((IntKind.u64.wrap (List.length x_ : Int)), (IntKind.u64.wrap count)) r1 [] false C123_holds hr1 rfl rfl ?_)))
    refine (And.intro rfl (And.intro rfl (And.intro (fun h => nomatch h) (And.intro rfl (And.intro rfl (And.intro trivial (And.intro trivial ?_)))))))
    obtain ⟨z2, hz2, hF⟩ := bindE hF
    refine Or.inr ⟨[(0, ⟨[(0, .dat (.sl (.int .i64)) x_), (6, .dat (.int .u64) r1.2)], [], 0⟩)], ?_, ?_⟩
    · have hF := hz2
      clear hz2
      unfold f80_j1 at hF
      refine Or.inl ?_
      refine condN hF (fun hF => ?_) (fun hF => ?_)
      · refine gdYF ?_
        refine condF ?_
        refine condI hF (fun hF => ?_) (fun hF => ?_)
        · exact nomatch hF
        · have hz := someE hF
          subst hz
          refine Exists.intro [] (Exists.intro [] (Exists.intro [] (Exists.intro [] (Exists.intro [] (And.intro rfl (And.intro rfl (And.intro rfl (And.intro trivial trivial))))))))
      · refine gdNF ?_
        refine condT ?_
        refine condT ?_
        exact nomatch hF
    · refine And.intro ?_ trivial
      refine Or.inl ?_
      refine guardI hF (fun hF => ?_)
      refine Or.inl ?_
      refine Or.inl ?_
      obtain ⟨z3, hz3, hF⟩ := bindE hF
      refine loopI (Int × (List Int)) (List Int) (fun x => ⟨[(7, .raw false [(.osl 0)]), (8, .dat (.int .i64) x.1)], [(0, .arr 33 (.int .i64) x.2)], 1⟩) (fun z => [(2, ⟨[(7, .raw false [(.osl 0)])], [(0, .arr 33 (.int .i64) z)], 1⟩)]) (loopF (fun go x => f80_l2 go x.1 x.2)) fuelN ((List.length (List.take (Int.toNat (List.length (List.replicate (Int.toNat (IntKind.i64.wrap r1.2)) (0 : Int)) : Int) - Int.toNat (0 : Int)) x_) : Int), (over (List.replicate (Int.toNat (IntKind.i64.wrap r1.2)) (0 : Int)) (0 : Int) (List.take (Int.toNat (List.length (List.replicate (Int.toNat (IntKind.i64.wrap r1.2)) (0 : Int)) : Int) - Int.toNat (0 : Int)) x_))) z3 (And.intro hz3 (And.intro (Exists.intro [] (Exists.intro [] (Exists.intro [] (Exists.intro [] (Exists.intro [(0, some 0)] (And.intro rfl (And.intro rfl (And.intro (And.intro rfl trivial) (And.intro rfl trivial))))))))) (And.intro (fun _ _ h => loopZ h) (And.intro (fun m => curI (fun n => fun l0 z hF => ?_)) ?_))))
      · have hF : f80_l2 (loopF (fun go x => f80_l2 go x.1 x.2) m) n l0 = some z := hF
        unfold f80_l2 at hF
        refine Or.inl ?_
        refine Or.inl ?_
        refine condI hF (fun hF => ?_) (fun hF => ?_)
        · refine Exists.intro (.take 0 (.take 1 (.take 2 (.take 3 (.take 4 (.take 5 (.take 6 (.alt 7 (.take 8 (.take 9 .done)) .done)))))))) (Exists.intro [] (Exists.intro [] (And.intro rfl ?_)))
          refine guardI hF (fun hF => ?_)
          refine guardI hF (fun hF => ?_)
          refine And.intro trivial ?_
          refine Exists.intro ((IntKind.i64.wrap (n + (List.length (List.take (Int.toNat (List.length l0 : Int) - Int.toNat n) (List.drop (Int.toNat (0 : Int)) (List.take (Int.toNat n) l0))) : Int))), (over l0 n (List.take (Int.toNat (List.length l0 : Int) - Int.toNat n) (List.drop (Int.toNat (0 : Int)) (List.take (Int.toNat n) l0))))) (And.intro hF (Exists.intro [] (Exists.intro [] (Exists.intro [] (Exists.intro [] (Exists.intro [(0, some 0)] (And.intro rfl (And.intro rfl (And.intro (And.intro rfl trivial) (And.intro rfl trivial))))))))))
        · have hz := someE hF
          subst hz
          refine Exists.intro [] (Exists.intro [] (Exists.intro [] (Exists.intro [] (Exists.intro [(0, some 0)] (And.intro rfl (And.intro (And.intro rfl trivial) (And.intro rfl trivial)))))))
      · refine And.intro ?_ trivial
        refine Or.inl ?_
        have hy := someE hF
        subst hy
        refine And.intro rfl (Exists.intro [] (Exists.intro [] (Exists.intro [] (Exists.intro [] (Exists.intro [(0, some 0)] (And.intro rfl (And.intro (And.intro rfl trivial) (And.intro rfl trivial))))))))
theorem C80_holds : C80.Holds Tryz.prog 80 := holds_of_vc tab_ok mixed (fn := Tryz.f80) (by kernel_rfl) rfl C80 (fun x y hF => C80_vc x.1 x.2 y hF)
theorem f80_in : ∃ fn, Tryz.prog.funcs[80]? = some fn ∧ fn.body.isSome = true ∧ (fn.name == "runtime.NumGoroutine") = false := ⟨Tryz.f80, by kernel_rfl, by kernel_rfl, by kernel_rfl⟩
end Go.Proofs
namespace Go.Proofs
open Go.AM
-- carousel/tens.New
def f36 (d : List Int) (v : Int) : Option (Int × (List Int) × (List Int)) :=
  bindF (f76 d) fun r1 =>
  bif (!r1) then
    some ((1 : Int), [], [])
  else
    bindF (f78 d) fun r2 =>
    bindF (f77 d) fun r3 =>
    bindF (f80 ([v]) r3) fun r4 =>
    some ((0 : Int), r2, r4)
def C36 : Con where
  X := (List Int) × Int
  Y := Int × (List Int) × (List Int)
  e := 0
  args x := [.dat (.sl (.int .i64)) x.1, .dat (.int .i64) x.2]
  hin x := []
  F x := f36 x.1 x.2
  ret y := [.raw true [(.osl 0), (.osl 1)], .dat (.int .i64) y.1]
  hout y := [(0, .arr 3 (.int .i64) y.2.1), (1, .arr 33 (.int .i64) y.2.2)]
  nout := 2
theorem C36_vc (d : List Int) (v : Int) (y : Int × (List Int) × (List Int)) (hF : f36 d v = some y) : vc Tryz.prog tab Tryz.f36.ntmps 0 (match Tryz.f36.body with | some c => c | none => .skip) (retK tab C36 Tryz.f36.results.toList y) (C36.shIn (d, v)).st := by
  unfold f36 at hF
  refine Or.inl ?_
  refine Or.inl ?_
  refine Or.inl ?_
  obtain ⟨r1, hr1, hF⟩ := bindE hF
  refine Or.inl (And.intro f76_in (callV0 (callI C76 d r1 [] false C76_holds hr1 rfl rfl ?_)))
  refine (And.intro rfl (And.intro (fun h => nomatch h) (And.intro rfl (And.intro rfl (And.intro trivial (And.intro trivial ?_))))))
  refine condI hF (fun hF => ?_) (fun hF => ?_)
  · refine Or.inl ?_
    refine Or.inl ?_
    have hy := someE hF
    subst hy
    refine And.intro rfl (Exists.intro [] (Exists.intro [] (Exists.intro [] (Exists.intro [] (Exists.intro [(0, none), (1, none)] (And.intro rfl (And.intro rfl (And.intro (And.intro rfl trivial) (And.intro rfl (And.intro rfl trivial))))))))))
  · refine Or.inl ?_
    obtain ⟨r2, hr2, hF⟩ := bindE hF
    refine Or.inl (And.intro f78_in (callV0 (callI C78 d r2 [] false C78_holds hr2 rfl rfl ?_)))
    refine (And.intro rfl (And.intro (fun h => nomatch h) (And.intro rfl (And.intro rfl (And.intro trivial (And.intro trivial ?_))))))
    refine Or.inl ?_
    obtain ⟨r3, hr3, hF⟩ := bindE hF
    refine Or.inl (And.intro f77_in (callV0 (callI C77 d r3 [] false C77_holds hr3 rfl rfl ?_)))
    refine (And.intro rfl (And.intro (fun h => nomatch h) (And.intro rfl (And.intro rfl (And.intro trivial (And.intro trivial ?_))))))
    obtain ⟨r4, hr4, hF⟩ := bindE hF
    refine Or.inl (And.intro f80_in (callV0 (callI C80 ([v], r3) r4 [] true C80_holds hr4 rfl rfl ?_)))
    refine (And.intro rfl (And.intro rfl (And.intro (fun _ => rfl) (And.intro rfl (And.intro rfl (And.intro trivial (And.intro trivial ?_)))))))
    refine Or.inl ?_
    have hy := someE hF
    subst hy
    refine And.intro rfl (Exists.intro [] (Exists.intro [] (Exists.intro [] (Exists.intro [] (Exists.intro [(0, some 1), (1, some 3)] (And.intro rfl (And.intro rfl (And.intro (And.intro rfl trivial) (And.intro rfl (And.intro rfl trivial))))))))))
theorem C36_holds : C36.Holds Tryz.prog 36 := holds_of_vc tab_ok mixed (fn := Tryz.f36) (by kernel_rfl) rfl C36 (fun x y hF => C36_vc x.1 x.2 y hF)
theorem f36_in : ∃ fn, Tryz.prog.funcs[36]? = some fn ∧ fn.body.isSome = true ∧ (fn.name == "runtime.NumGoroutine") = false := ⟨Tryz.f36, by kernel_rfl, by kernel_rfl, by kernel_rfl⟩
end Go.Proofs
namespace Go.Proofs
open Go.AM
-- carousel/shape.Strides
def f136_l1 (d : List Int) (go : (Int × Int × (List Int)) → Option (List Int)) (n : Int) (i : Int) (l0 : List Int) : Option (List Int) :=
  bif (decide (i ≥ (0 : Int))) then
    guardF (0 ≤ i ∧ i < (List.length l0 : Int)) <|
    guardF (0 ≤ i ∧ i < (List.length d : Int)) <|
    go ((IntKind.i64.wrap (n * (rd (0 : Int) d i))), (IntKind.i64.wrap (i - (1 : Int))), (List.set l0 (Int.toNat i) n))
  else
    some l0
def f136 (d : List Int) : Option (List Int) :=
  bindF (f76 d) fun r1 =>
  bif (!r1) then
    some ([])
  else
    guardF (0 ≤ (List.length d : Int) ∧ (List.length d : Int) ≤ (List.length d : Int) ∧ Int.toNat (List.length d : Int) * 8 ≤ 140737488355328) <|
    bindF (loopF (fun go x => f136_l1 d go x.1 x.2.1 x.2.2) fuelN ((1 : Int), (IntKind.i64.wrap ((List.length d : Int) - (1 : Int))), (List.replicate (Int.toNat (List.length d : Int)) (0 : Int)))) fun z2 =>
    some z2
def C136 : Con where
  X := List Int
  Y := List Int
  e := 0
  args x := [.dat (.sl (.int .i64)) x]
  hin x := []
  F x := f136 x
  ret y := [.raw false [(.osl 0)]]
  hout y := [(0, .arr 3 (.int .i64) y)]
  nout := 1
theorem C136_vc (d : List Int) (y : List Int) (hF : f136 d = some y) : vc Tryz.prog tab Tryz.f136.ntmps 0 (match Tryz.f136.body with | some c => c | none => .skip) (retK tab C136 Tryz.f136.results.toList y) (C136.shIn d).st := by
  unfold f136 at hF
  refine Or.inl ?_
  refine Or.inl ?_
  refine Or.inl ?_
  obtain ⟨r1, hr1, hF⟩ := bindE hF
  refine Or.inl (And.intro f76_in (callV0 (callI C76 d r1 [] false C76_holds hr1 rfl rfl ?_)))
  refine (And.intro rfl (And.intro (fun h => nomatch h) (And.intro rfl (And.intro rfl (And.intro trivial (And.intro trivial ?_))))))
  refine condI hF (fun hF => ?_) (fun hF => ?_)
  · refine Or.inl ?_
    have hy := someE hF
    subst hy
    refine And.intro rfl (Exists.intro [] (Exists.intro [] (Exists.intro [] (Exists.intro [] (Exists.intro [(0, none)] (And.intro rfl (And.intro (And.intro rfl trivial) (And.intro rfl trivial))))))))
  · refine Or.inl ?_
    refine guardI hF (fun hF => ?_)
    refine Or.inl ?_
    refine Or.inl ?_
    refine Or.inl ?_
    obtain ⟨z2, hz2, hF⟩ := bindE hF
    refine loopI (Int × Int × (List Int)) (List Int) (fun x => ⟨[(0, .dat (.sl (.int .i64)) d), (3, .raw false [(.osl 0)]), (4, .dat (.int .i64) x.1), (5, .dat (.int .i64) x.2.1)], [(0, .arr 3 (.int .i64) x.2.2)], 1⟩) (fun z => [(2, ⟨[(3, .raw false [(.osl 0)])], [(0, .arr 3 (.int .i64) z)], 1⟩)]) (loopF (fun go x => f136_l1 d go x.1 x.2.1 x.2.2)) fuelN ((1 : Int), (IntKind.i64.wrap ((List.length d : Int) - (1 : Int))), (List.replicate (Int.toNat (List.length d : Int)) (0 : Int))) z2 (And.intro hz2 (And.intro (Exists.intro [] (Exists.intro [] (Exists.intro [] (Exists.intro [] (Exists.intro [(0, some 0)] (And.intro rfl (And.intro rfl (And.intro rfl (And.intro rfl (And.intro (And.intro rfl trivial) (And.intro rfl trivial))))))))))) (And.intro (fun _ _ h => loopZ h) (And.intro (fun m => curI (fun n => curI (fun i => fun l0 z hF => ?_))) ?_))))
    · have hF : f136_l1 d (loopF (fun go x => f136_l1 d go x.1 x.2.1 x.2.2) m) n i l0 = some z := hF
      unfold f136_l1 at hF
      refine Or.inl ?_
      refine Or.inl ?_
      refine condI hF (fun hF => ?_) (fun hF => ?_)
      · refine Or.inl ?_
        refine Or.inl ?_
        refine guardI hF (fun hF => ?_)
        refine Or.inl ?_
        refine guardI hF (fun hF => ?_)
        refine Exists.intro ((IntKind.i64.wrap (n * (rd (0 : Int) d i))), (IntKind.i64.wrap (i - (1 : Int))), (List.set l0 (Int.toNat i) n)) (And.intro hF (Exists.intro [] (Exists.intro [] (Exists.intro [] (Exists.intro [] (Exists.intro [(0, some 0)] (And.intro rfl (And.intro rfl (And.intro rfl (And.intro rfl (And.intro (And.intro rfl trivial) (And.intro rfl trivial))))))))))))
      · have hz := someE hF
        subst hz
        refine Exists.intro [] (Exists.intro [] (Exists.intro [] (Exists.intro [] (Exists.intro [(0, some 0)] (And.intro rfl (And.intro (And.intro rfl trivial) (And.intro rfl trivial)))))))
    · refine And.intro ?_ trivial
      refine Or.inl ?_
      have hy := someE hF
      subst hy
      refine And.intro rfl (Exists.intro [] (Exists.intro [] (Exists.intro [] (Exists.intro [] (Exists.intro [(0, some 0)] (And.intro rfl (And.intro (And.intro rfl trivial) (And.intro rfl trivial))))))))
theorem C136_holds : C136.Holds Tryz.prog 136 := holds_of_vc tab_ok mixed (fn := Tryz.f136) (by kernel_rfl) rfl C136 (fun x y hF => C136_vc x y hF)
theorem f136_in : ∃ fn, Tryz.prog.funcs[136]? = some fn ∧ fn.body.isSome = true ∧ (fn.name == "runtime.NumGoroutine") = false := ⟨Tryz.f136, by kernel_rfl, by kernel_rfl, by kernel_rfl⟩
end Go.Proofs
namespace Go.Proofs
open Go.AM
-- carousel/shape.Spread
def f143_j13 (d : List Int) (big : List Int) (q11_19 : List Int) (v23 : Int) (rest : Int) (i : Int) (l1_2 : List Int) : Option (List Int) :=
  guardF (0 ≤ (IntKind.i64.wrap (i - (IntKind.i64.wrap ((List.length big : Int) - (List.length d : Int))))) ∧ (IntKind.i64.wrap (i - (IntKind.i64.wrap ((List.length big : Int) - (List.length d : Int))))) < (List.length d : Int)) <|
  bif (decide ((rd (0 : Int) d (IntKind.i64.wrap (i - (IntKind.i64.wrap ((List.length big : Int) - (List.length d : Int)))))) > (1 : Int))) then
    guardF (0 ≤ v23 ∧ v23 < (List.length l1_2 : Int)) <|
    guardF (0 ≤ i ∧ i < (List.length big : Int)) <|
    guardF ((rd (0 : Int) big i) ≠ 0) <|
    guardF (0 ≤ (IntKind.i64.wrap (i - (IntKind.i64.wrap ((List.length big : Int) - (List.length d : Int))))) ∧ (IntKind.i64.wrap (i - (IntKind.i64.wrap ((List.length big : Int) - (List.length d : Int))))) < (List.length q11_19 : Int)) <|
    guardF (0 ≤ v23 ∧ v23 < (List.length l1_2 : Int)) <|
    some (List.set l1_2 (Int.toNat v23) (IntKind.i64.wrap ((rd (0 : Int) l1_2 v23) + (IntKind.i64.wrap ((Int.tmod rest (rd (0 : Int) big i)) * (rd (0 : Int) q11_19 (IntKind.i64.wrap (i - (IntKind.i64.wrap ((List.length big : Int) - (List.length d : Int)))))))))))
  else
    some l1_2
def f143_l12 (d : List Int) (big : List Int) (q11_19 : List Int) (v23 : Int) (go : (Int × Int × (List Int)) → Option (List Int)) (rest : Int) (i : Int) (l1_2 : List Int) : Option (List Int) :=
  bif (decide (i ≥ (IntKind.i64.wrap ((List.length big : Int) - (List.length d : Int))))) then
    bindF (f143_j13 d big q11_19 v23 rest i l1_2) fun z14 =>
    guardF (0 ≤ i ∧ i < (List.length big : Int)) <|
    guardF ((rd (0 : Int) big i) ≠ 0) <|
    go ((IntKind.i64.wrap (Int.tdiv rest (rd (0 : Int) big i))), (IntKind.i64.wrap (i - (1 : Int))), z14)
  else
    some l1_2
def f143_l9 (d : List Int) (big : List Int) (q11_19 : List Int) (r1 : Int) (go : (Int × (List Int)) → Option (List Int)) (v23 : Int) (l1 : List Int) : Option (List Int) :=
  bif (decide (v23 < (List.length (List.replicate (Int.toNat r1) (0 : Int)) : Int))) then
    bindF (loopF (fun go x => f143_l12 d big q11_19 v23 go x.1 x.2.1 x.2.2) fuelN (v23, (IntKind.i64.wrap ((List.length big : Int) - (1 : Int))), l1)) fun z13 =>
    go ((IntKind.i64.wrap (v23 + (1 : Int))), z13)
  else
    some l1
def f143 (d : List Int) (big : List Int) : Option (List Int) :=
  bindF (f136 d) fun q11_19 =>
  bindF (f77 big) fun r1 =>
  guardF (0 ≤ r1 ∧ r1 ≤ r1 ∧ Int.toNat r1 * 8 ≤ 140737488355328) <|
  bindF (loopF (fun go x => f143_l9 d big q11_19 r1 go x.1 x.2) fuelN ((0 : Int), (List.replicate (Int.toNat r1) (0 : Int)))) fun z10 =>
  some z10
def C143 : Con where
  X := (List Int) × (List Int)
  Y := List Int
  e := 0
  args x := [.dat (.sl (.int .i64)) x.1, .dat (.sl (.int .i64)) x.2]
  hin x := []
  F x := f143 x.1 x.2
  ret y := [.raw false [(.osl 0)]]
  hout y := [(0, .arr 3 (.int .i64) y)]
  nout := 1
theorem C143_vc (d : List Int) (big : List Int) (y : List Int) (hF : f143 d big = some y) : vc Tryz.prog tab Tryz.f143.ntmps 0 (match Tryz.f143.body with | some c => c | none => .skip) (retK tab C143 Tryz.f143.results.toList y) (C143.shIn (d, big)).st := by
  unfold f143 at hF
  refine Or.inl ?_
  refine Or.inl ?_
  obtain ⟨q11_19, hq11_19, hF⟩ := bindE hF
  refine Or.inl (And.intro f136_in (callV0 (callI C136 d q11_19 [] false C136_holds hq11_19 rfl rfl ?_)))
  refine (And.intro rfl (And.intro (fun h => nomatch h) (And.intro rfl (And.intro rfl (And.intro trivial (And.intro trivial ?_))))))
  refine Or.inl ?_
  obtain ⟨r1, hr1, hF⟩ := bindE hF
  refine Or.inl (And.intro f77_in (callV0 (callI C77 big r1 [] false C77_holds hr1 rfl rfl ?_)))
  refine (And.intro rfl (And.intro (fun h => nomatch h) (And.intro rfl (And.intro rfl (And.intro trivial (And.intro trivial ?_))))))
  refine guardI hF (fun hF => ?_)
  refine Or.inl ?_
  refine Or.inl ?_
  obtain ⟨z10, hz10, hF⟩ := bindE hF
  refine loopI (Int × (List Int)) (List Int) (fun x => ⟨[(0, .dat (.sl (.int .i64)) d), (1, .dat (.sl (.int .i64)) big), (5, .raw false [(.osl 0)]), (6, .dat (.int .i64) (IntKind.i64.wrap ((List.length big : Int) - (List.length d : Int)))), (7, .raw false [(.osl 1)]), (22, .dat (.int .i64) (List.length (List.replicate (Int.toNat r1) (0 : Int)) : Int)), (23, .dat (.int .i64) x.1)], [(0, .arr 3 (.int .i64) q11_19), (1, .arr 3 (.int .i64) x.2)], 2⟩) (fun z => [(2, ⟨[(7, .raw false [(.osl 0)])], [(0, .arr 3 (.int .i64) z)], 1⟩)]) (loopF (fun go x => f143_l9 d big q11_19 r1 go x.1 x.2)) fuelN ((0 : Int), (List.replicate (Int.toNat r1) (0 : Int))) z10 (And.intro hz10 (And.intro (Exists.intro [] (Exists.intro [] (Exists.intro [] (Exists.intro [] (Exists.intro [(0, some 0), (1, some 1)] (And.intro rfl (And.intro rfl (And.intro rfl (And.intro rfl (And.intro rfl (And.intro rfl (And.intro (And.intro rfl (And.intro rfl trivial)) (And.intro rfl (And.intro rfl trivial)))))))))))))) (And.intro (fun _ _ h => loopZ h) (And.intro (fun m => curI (fun v23 => fun l1 z hF => ?_)) ?_))))
  · have hF : f143_l9 d big q11_19 r1 (loopF (fun go x => f143_l9 d big q11_19 r1 go x.1 x.2) m) v23 l1 = some z := hF
    unfold f143_l9 at hF
    refine Or.inl ?_
    refine Or.inl ?_
    refine condI hF (fun hF => ?_) (fun hF => ?_)
    · refine Or.inl ?_
      refine Or.inl ?_
      refine Or.inl ?_
      refine Or.inl ?_
      obtain ⟨z13, hz13, hF⟩ := bindE hF
      refine loopI (Int × Int × (List Int)) (List Int) (fun x => ⟨[(0, .dat (.sl (.int .i64)) d), (1, .dat (.sl (.int .i64)) big), (5, .raw false [(.osl 0)]), (6, .dat (.int .i64) (IntKind.i64.wrap ((List.length big : Int) - (List.length d : Int)))), (7, .raw false [(.osl 1)]), (8, .dat (.int .i64) v23), (9, .dat (.int .i64) x.1), (10, .dat (.int .i64) x.2.1), (22, .dat (.int .i64) (List.length (List.replicate (Int.toNat r1) (0 : Int)) : Int)), (23, .dat (.int .i64) v23)], [(0, .arr 3 (.int .i64) q11_19), (1, .arr 3 (.int .i64) x.2.2)], 2⟩) (fun z => [(4, ⟨[(0, .dat (.sl (.int .i64)) d), (1, .dat (.sl (.int .i64)) big), (5, .raw false [(.osl 0)]), (6, .dat (.int .i64) (IntKind.i64.wrap ((List.length big : Int) - (List.length d : Int)))), (7, .raw false [(.osl 1)]), (22, .dat (.int .i64) (List.length (List.replicate (Int.toNat r1) (0 : Int)) : Int)), (23, .dat (.int .i64) v23)], [(0, .arr 3 (.int .i64) q11_19), (1, .arr 3 (.int .i64) z)], 2⟩)]) (loopF (fun go x => f143_l12 d big q11_19 v23 go x.1 x.2.1 x.2.2)) fuelN (v23, (IntKind.i64.wrap ((List.length big : Int) - (1 : Int))), l1) z13 (And.intro hz13 (And.intro (Exists.intro [] (Exists.intro [] (Exists.intro [] (Exists.intro [] (Exists.intro [(0, some 0), (1, some 1)] (And.intro rfl (And.intro rfl (And.intro rfl (And.intro rfl (And.intro rfl (And.intro rfl (And.intro rfl (And.intro rfl (And.intro rfl (And.intro (And.intro rfl (And.intro rfl trivial)) (And.intro rfl (And.intro rfl trivial))))))))))))))))) (And.intro (fun _ _ h => loopZ h) (And.intro (fun m => curI (fun rest => curI (fun i => fun l1_2 z hF => ?_))) ?_))))
      · have hF : f143_l12 d big q11_19 v23 (loopF (fun go x => f143_l12 d big q11_19 v23 go x.1 x.2.1 x.2.2) m) rest i l1_2 = some z := hF
        unfold f143_l12 at hF
        refine Or.inl ?_
        refine Or.inl ?_
        refine condI hF (fun hF => ?_) (fun hF => ?_)
        · refine Or.inl ?_
          obtain ⟨z14, hz14, hF⟩ := bindE hF
          refine Or.inr ⟨[(0, ⟨[(0, .dat (.sl (.int .i64)) d), (1, .dat (.sl (.int .i64)) big), (5, .raw false [(.osl 0)]), (6, .dat (.int .i64) (IntKind.i64.wrap ((List.length big : Int) - (List.length d : Int)))), (7, .raw false [(.osl 1)]), (8, .dat (.int .i64) v23), (9, .dat (.int .i64) rest), (10, .dat (.int .i64) i), (22, .dat (.int .i64) (List.length (List.replicate (Int.toNat r1) (0 : Int)) : Int)), (23, .dat (.int .i64) v23)], [(0, .arr 3 (.int .i64) q11_19), (1, .arr 3 (.int .i64) z14)], 2⟩)], ?_, ?_⟩
          · have hF := hz14
            clear hz14
            unfold f143_j13 at hF
            refine Or.inl ?_
            refine guardI hF (fun hF => ?_)
            refine condI hF (fun hF => ?_) (fun hF => ?_)
            · refine Exists.intro (.take 0 (.take 1 (.take 2 (.take 3 (.take 4 (.take 5 (.take 6 (.take 7 (.take 8 (.take 9 (.take 10 (.take 11 (.take 12 (.take 13 (.take 14 (.take 15 (.take 16 (.take 17 (.take 18 (.alt 19 .done .done)))))))))))))))))))) (Exists.intro [(19, [1])] (Exists.intro [] (And.intro rfl ?_)))
              refine guardI hF (fun hF => ?_)
              refine guardI hF (fun hF => ?_)
              refine guardI hF (fun hF => ?_)
              refine guardI hF (fun hF => ?_)
              refine guardI hF (fun hF => ?_)
              refine And.intro trivial ?_
              refine Or.inl ?_
              have hz := someE hF
              subst hz
              refine Exists.intro [] (Exists.intro [] (Exists.intro [] (Exists.intro [] (Exists.intro [(0, some 0), (1, some 1)] (And.intro rfl (And.intro rfl (And.intro rfl (And.intro rfl (And.intro rfl (And.intro rfl (And.intro rfl (And.intro rfl (And.intro rfl (And.intro (And.intro rfl (And.intro rfl trivial)) (And.intro rfl (And.intro rfl trivial))))))))))))))))
            · have hz := someE hF
              subst hz
              refine Exists.intro [] (Exists.intro [] (Exists.intro [] (Exists.intro [] (Exists.intro [(0, some 0), (1, some 1)] (And.intro rfl (And.intro rfl (And.intro rfl (And.intro rfl (And.intro rfl (And.intro rfl (And.intro rfl (And.intro rfl (And.intro rfl (And.intro (And.intro rfl (And.intro rfl trivial)) (And.intro rfl (And.intro rfl trivial))))))))))))))))
          · refine And.intro ?_ trivial
            refine guardI hF (fun hF => ?_)
            refine guardI hF (fun hF => ?_)
            refine Exists.intro ((IntKind.i64.wrap (Int.tdiv rest (rd (0 : Int) big i))), (IntKind.i64.wrap (i - (1 : Int))), z14) (And.intro hF (Exists.intro [] (Exists.intro [] (Exists.intro [] (Exists.intro [] (Exists.intro [(0, some 0), (1, some 1)] (And.intro rfl (And.intro rfl (And.intro rfl (And.intro rfl (And.intro rfl (And.intro rfl (And.intro rfl (And.intro rfl (And.intro rfl (And.intro (And.intro rfl (And.intro rfl trivial)) (And.intro rfl (And.intro rfl trivial))))))))))))))))))
        · have hz := someE hF
          subst hz
          refine Exists.intro [] (Exists.intro [] (Exists.intro [] (Exists.intro [] (Exists.intro [(0, some 0), (1, some 1)] (And.intro rfl (And.intro rfl (And.intro rfl (And.intro rfl (And.intro rfl (And.intro rfl (And.intro (And.intro rfl (And.intro rfl trivial)) (And.intro rfl (And.intro rfl trivial)))))))))))))
      · refine And.intro ?_ trivial
        refine Exists.intro ((IntKind.i64.wrap (v23 + (1 : Int))), z13) (And.intro hF (Exists.intro [] (Exists.intro [] (Exists.intro [] (Exists.intro [] (Exists.intro [(0, some 0), (1, some 1)] (And.intro rfl (And.intro rfl (And.intro rfl (And.intro rfl (And.intro rfl (And.intro rfl (And.intro (And.intro rfl (And.intro rfl trivial)) (And.intro rfl (And.intro rfl trivial)))))))))))))))
    · have hz := someE hF
      subst hz
      refine Exists.intro [] (Exists.intro [] (Exists.intro [] (Exists.intro [] (Exists.intro [(0, some 1)] (And.intro rfl (And.intro (And.intro rfl trivial) (And.intro rfl trivial)))))))
  · refine And.intro ?_ trivial
    refine Or.inl ?_
    have hy := someE hF
    subst hy
    refine And.intro rfl (Exists.intro [] (Exists.intro [] (Exists.intro [] (Exists.intro [] (Exists.intro [(0, some 0)] (And.intro rfl (And.intro (And.intro rfl trivial) (And.intro rfl trivial))))))))
theorem C143_holds : C143.Holds Tryz.prog 143 := holds_of_vc tab_ok mixed (fn := Tryz.f143) (by kernel_rfl) rfl C143 (fun x y hF => C143_vc x.1 x.2 y hF)
theorem f143_in : ∃ fn, Tryz.prog.funcs[143]? = some fn ∧ fn.body.isSome = true ∧ (fn.name == "runtime.NumGoroutine") = false := ⟨Tryz.f143, by kernel_rfl, by kernel_rfl, by kernel_rfl⟩
end Go.Proofs
namespace Go.Proofs
open Go.AM
-- carousel/fix.Add
def f125_j1 (a : Int) (b : Int) : Option (Sum Unit Unit) :=
  bif (!((decide (a < (0 : Int))) == (decide (b < (0 : Int))))) then
    some (Sum.inr ())
  else
    bif ((decide ((IntKind.i64.wrap (a + b)) < (0 : Int))) == (decide (a < (0 : Int)))) then
      some (Sum.inr ())
    else
      some (Sum.inl ())
def f125 (a : Int) (b : Int) : Option Int :=
  bindF (f125_j1 a b) fun z1 =>
  sumF z1 (fun z1a =>
    bif (decide (a < (0 : Int))) then
      some (-9223372036854775808 : Int)
    else
      some (9223372036854775807 : Int)) (fun z1b =>
    some (IntKind.i64.wrap (a + b)))
def C125 : Con where
  X := Int × Int
  Y := Int
  e := 0
  args x := [.dat (.int .i64) x.1, .dat (.int .i64) x.2]
  hin x := []
  F x := f125 x.1 x.2
  ret y := [.dat (.int .i64) y]
  hout y := []
  nout := 0
theorem C125_vc (a : Int) (b : Int) (y : Int) (hF : f125 a b = some y) : vc Tryz.prog tab Tryz.f125.ntmps 0 (match Tryz.f125.body with | some c => c | none => .skip) (retK tab C125 Tryz.f125.results.toList y) (C125.shIn (a, b)).st := by
  unfold f125 at hF
  refine Or.inl ?_
  refine Or.inl ?_
  obtain ⟨z1, hz1, hF⟩ := bindE hF
  refine Or.inr ⟨Sum.elim (fun z1a => [(0, ⟨[(0, .dat (.int .i64) a)], [], 0⟩)]) (fun z1b => [(1, ⟨[(4, .dat (.int .i64) (IntKind.i64.wrap (a + b)))], [], 0⟩)]) z1, ?_, ?_⟩
  · have hF := hz1
    clear hz1
    unfold f125_j1 at hF
    refine Or.inl ?_
    refine condN hF (fun hF => ?_) (fun hF => ?_)
    · refine gdYF ?_
      refine gdYF ?_
      refine gdYF ?_
      refine gdYF ?_
      refine condF ?_
      refine condI hF (fun hF => ?_) (fun hF => ?_)
      · refine Or.inl ?_
        have hz := someE hF
        subst hz
        refine Exists.intro [] (Exists.intro [] (Exists.intro [] (Exists.intro [] (Exists.intro [] (And.intro rfl (And.intro rfl (And.intro trivial trivial)))))))
      · have hz := someE hF
        subst hz
        refine Exists.intro [] (Exists.intro [] (Exists.intro [] (Exists.intro [] (Exists.intro [] (And.intro rfl (And.intro rfl (And.intro trivial trivial)))))))
    · refine gdNF ?_
      refine gdNF ?_
      refine gdNF ?_
      refine gdNF ?_
      refine condT ?_
      refine condT ?_
      refine Or.inl ?_
      have hz := someE hF
      subst hz
      refine Exists.intro [] (Exists.intro [] (Exists.intro [] (Exists.intro [] (Exists.intro [] (And.intro rfl (And.intro rfl (And.intro trivial trivial)))))))
  · rcases z1 with z1a | z1b
    · dsimp only [sumF] at hF
      refine And.intro ?_ trivial
      refine Or.inl ?_
      refine Or.inl ?_
      refine condI hF (fun hF => ?_) (fun hF => ?_)
      · refine Or.inl ?_
        have hy := someE hF
        subst hy
        refine And.intro rfl (Exists.intro [] (Exists.intro [] (Exists.intro [] (Exists.intro [] (Exists.intro [] (And.intro rfl (And.intro rfl (And.intro trivial trivial))))))))
      · refine Or.inl ?_
        have hy := someE hF
        subst hy
        refine And.intro rfl (Exists.intro [] (Exists.intro [] (Exists.intro [] (Exists.intro [] (Exists.intro [] (And.intro rfl (And.intro rfl (And.intro trivial trivial))))))))
    · dsimp only [sumF] at hF
      refine And.intro ?_ trivial
      have hy := someE hF
      subst hy
      refine And.intro rfl (Exists.intro [] (Exists.intro [] (Exists.intro [] (Exists.intro [] (Exists.intro [] (And.intro rfl (And.intro rfl (And.intro trivial trivial))))))))
theorem C125_holds : C125.Holds Tryz.prog 125 := holds_of_vc tab_ok mixed (fn := Tryz.f125) (by kernel_rfl) rfl C125 (fun x y hF => C125_vc x.1 x.2 y hF)
theorem f125_in : ∃ fn, Tryz.prog.funcs[125]? = some fn ∧ fn.body.isSome = true ∧ (fn.name == "runtime.NumGoroutine") = false := ⟨Tryz.f125, by kernel_rfl, by kernel_rfl, by kernel_rfl⟩
end Go.Proofs
namespace Go.Proofs
open Go.AM
-- carousel/tens.both
def f124_125_j3 (a : (List Int) × (List Int)) (b : (List Int) × (List Int)) : Option Bool :=
  bindF (f33 (a.1, a.2)) fun r9 =>
  bif (!r9) then
    some true
  else
    bindF (f33 (b.1, b.2)) fun r10 =>
    some (!r10)
def f124_125_j2 (a : (List Int) × (List Int)) (b : (List Int) × (List Int)) : Option (Sum Unit Unit) :=
  bindF (f124_125_j3 a b) fun z8 =>
  bif z8 then
    some (Sum.inr ())
  else
    some (Sum.inl ())
def f124_125_l4 (a : (List Int) × (List Int)) (b : (List Int) × (List Int)) (r12 : Int × (List Int) × (List Int)) (q7_3 : List Int) (q7_7 : List Int) (go : (Int × (List Int)) → Option (List Int)) (v52 : Int) (l7 : List Int) : Option (List Int) :=
  bif (decide (v52 < (List.length r12.2.2 : Int))) then
    guardF (0 ≤ v52 ∧ v52 < (List.length q7_3 : Int)) <|
    guardF (0 ≤ (rd (0 : Int) q7_3 v52) ∧ (rd (0 : Int) q7_3 v52) < (List.length a.2 : Int)) <|
    guardF (0 ≤ v52 ∧ v52 < (List.length q7_7 : Int)) <|
    guardF (0 ≤ (rd (0 : Int) q7_7 v52) ∧ (rd (0 : Int) q7_7 v52) < (List.length b.2 : Int)) <|
    bindF (f125 (rd (0 : Int) a.2 (rd (0 : Int) q7_3 v52)) (rd (0 : Int) b.2 (rd (0 : Int) q7_7 v52))) fun q11_20 =>
    guardF (0 ≤ v52 ∧ v52 < (List.length l7 : Int)) <|
    go ((IntKind.i64.wrap (v52 + (1 : Int))), (List.set l7 (Int.toNat v52) q11_20))
  else
    some l7
def f124_125 (a : (List Int) × (List Int)) (b : (List Int) × (List Int)) : Option (Int × (List Int) × (List Int)) :=
  bindF (f124_125_j2 a b) fun z5 =>
  sumF z5 (fun z5a =>
    bindF (f142 a.1 b.1) fun r11 =>
    bif (r11.1 != (0 : Int)) then
      some (r11.1, [], [])
    else
      bindF (f36 r11.2 (0 : Int)) fun r12 =>
      bindF (f143 a.1 r11.2) fun q7_3 =>
      bindF (f143 b.1 r11.2) fun q7_7 =>
      bindF (loopF (fun go x => f124_125_l4 a b r12 q7_3 q7_7 go x.1 x.2) fuelN ((0 : Int), r12.2.2)) fun z13 =>
      some ((0 : Int), r12.2.1, z13)) (fun z5b =>
    some ((1 : Int), [], []))
def C124_125 : Con where
  X := ((List Int) × (List Int)) × ((List Int) × (List Int))
  Y := Int × (List Int) × (List Int)
  e := 0
  args x := [.dat (.p (.sl (.int .i64)) (.sl (.int .i64))) x.1, .dat (.p (.sl (.int .i64)) (.sl (.int .i64))) x.2, .raw false [(.c (.func (.func 125) #[] #[]))]]
  hin x := []
  F x := f124_125 x.1 x.2
  ret y := [.raw true [(.osl 0), (.osl 1)], .dat (.int .i64) y.1]
  hout y := [(0, .arr 3 (.int .i64) y.2.1), (1, .arr 33 (.int .i64) y.2.2)]
  nout := 2
theorem C124_125_vc (a : (List Int) × (List Int)) (b : (List Int) × (List Int)) (y : Int × (List Int) × (List Int)) (hF : f124_125 a b = some y) : vc Tryz.prog tab Tryz.f124.ntmps 0 (match Tryz.f124.body with | some c => c | none => .skip) (retK tab C124_125 Tryz.f124.results.toList y) (C124_125.shIn (a, b)).st := by
  unfold f124_125 at hF
  refine Or.inl ?_
  obtain ⟨z5, hz5, hF⟩ := bindE hF
  refine Or.inr ⟨Sum.elim (fun z5a => [(0, ⟨[(2, .raw false [(.c (.func (.func 125) #[] #[]))]), (3, .raw false [(.ptr 0 0)]), (4, .raw false [(.ptr 1 0)]), (6, .raw false [(.ptr 2 0)])], [(0, .cells [(.d (.sl (.int .i64)) a.1), (.d (.sl (.int .i64)) a.2)]), (1, .cells [(.d (.sl (.int .i64)) b.1), (.d (.sl (.int .i64)) b.2)]), (2, .cells [(.c (.slice none 0 0)), (.c (.slice none 0 0))])], 3⟩)]) (fun z5b => [(1, ⟨[(6, .raw false [(.ptr 0 0)]), (7, .dat (.int .i64) (1 : Int))], [(0, .cells [(.c (.slice none 0 0)), (.c (.slice none 0 0))])], 1⟩)]) z5, ?_, ?_⟩
  · have hF := hz5
    clear hz5
    unfold f124_125_j2 at hF
    obtain ⟨z8, hz8, hF⟩ := bindE hF
    refine Or.inr ⟨[(0, ⟨[(2, .raw false [(.c (.func (.func 125) #[] #[]))]), (3, .raw false [(.ptr 0 0)]), (4, .raw false [(.ptr 1 0)]), (6, .raw false [(.ptr 2 0)]), (22, .dat .bool z8)], [(0, .cells [(.d (.sl (.int .i64)) a.1), (.d (.sl (.int .i64)) a.2)]), (1, .cells [(.d (.sl (.int .i64)) b.1), (.d (.sl (.int .i64)) b.2)]), (2, .cells [(.c (.slice none 0 0)), (.c (.slice none 0 0))])], 3⟩)], ?_, ?_⟩
    · have hF := hz8
      clear hz8
      unfold f124_125_j3 at hF
      obtain ⟨r9, hr9, hF⟩ := bindE hF
      refine Or.inl (And.intro f33_in (callV0 (callI C33 (a.1, a.2) r9 [] false C33_holds hr9 rfl rfl ?_)))
      refine (And.intro rfl (And.intro rfl (And.intro (fun h => nomatch h) (And.intro rfl (And.intro rfl (And.intro trivial (And.intro trivial ?_)))))))
      refine condN hF (fun hF => ?_) (fun hF => ?_)
      · refine gdYF ?_
        obtain ⟨r10, hr10, hF⟩ := bindE hF
        refine Or.inl (And.intro f33_in (callV0 (callI C33 (b.1, b.2) r10 [] false C33_holds hr10 rfl rfl ?_)))
        refine (And.intro rfl (And.intro rfl (And.intro (fun h => nomatch h) (And.intro rfl (And.intro rfl (And.intro trivial (And.intro trivial ?_)))))))
        refine gdYF ?_
        refine condF ?_
        have hz := someE hF
        subst hz
        refine Exists.intro [] (Exists.intro [] (Exists.intro [] (Exists.intro [] (Exists.intro [(0, some 0), (1, some 1), (2, some 2)] (And.intro rfl (And.intro rfl (And.intro (And.intro rfl (And.intro rfl (And.intro rfl (And.intro rfl trivial)))) (And.intro rfl (And.intro rfl (And.intro rfl trivial))))))))))
      · refine gdNF ?_
        refine gdNF ?_
        refine condT ?_
        have hz := someE hF
        subst hz
        refine Exists.intro [] (Exists.intro [] (Exists.intro [] (Exists.intro [] (Exists.intro [(0, some 0), (1, some 1), (2, some 2)] (And.intro rfl (And.intro rfl (And.intro (And.intro rfl (And.intro rfl (And.intro rfl (And.intro rfl trivial)))) (And.intro rfl (And.intro rfl (And.intro rfl trivial))))))))))
    · refine And.intro ?_ trivial
      refine condI hF (fun hF => ?_) (fun hF => ?_)
      · refine Or.inl ?_
        refine Or.inl ?_
        have hz := someE hF
        subst hz
        refine Exists.intro [] (Exists.intro [] (Exists.intro [] (Exists.intro [] (Exists.intro [(0, some 2)] (And.intro rfl (And.intro rfl (And.intro (And.intro rfl trivial) (And.intro rfl trivial))))))))
      · have hz := someE hF
        subst hz
        refine Exists.intro [] (Exists.intro [] (Exists.intro [] (Exists.intro [] (Exists.intro [(0, some 0), (1, some 1), (2, some 2)] (And.intro rfl (And.intro (And.intro rfl (And.intro rfl (And.intro rfl (And.intro rfl trivial)))) (And.intro rfl (And.intro rfl (And.intro rfl trivial)))))))))
  · rcases z5 with z5a | z5b
    · dsimp only [sumF] at hF
      refine And.intro ?_ trivial
      refine Or.inl ?_
      obtain ⟨r11, hr11, hF⟩ := bindE hF
      refine Or.inl (And.intro f142_in (callV0 (callI C142 (a.1, b.1) r11 [] false C142_holds hr11 rfl rfl ?_)))
      refine (And.intro rfl (And.intro rfl (And.intro (fun h => nomatch h) (And.intro rfl (And.intro rfl (And.intro trivial (And.intro trivial ?_)))))))
      refine Or.inl ?_
      refine Or.inl ?_
      refine condI hF (fun hF => ?_) (fun hF => ?_)
      · refine Or.inl ?_
        refine Or.inl ?_
        have hy := someE hF
        subst hy
        refine And.intro rfl (Exists.intro [] (Exists.intro [] (Exists.intro [] (Exists.intro [] (Exists.intro [(0, none), (1, none)] (And.intro rfl (And.intro rfl (And.intro (And.intro rfl trivial) (And.intro rfl (And.intro rfl trivial))))))))))
      · refine Or.inl ?_
        obtain ⟨r12, hr12, hF⟩ := bindE hF
        refine Or.inl (And.intro f36_in (callV0 (callI C36 (r11.2, (0 : Int)) r12 [] true C36_holds hr12 rfl rfl ?_)))
        refine (And.intro rfl (And.intro rfl (And.intro (fun _ => rfl) (And.intro rfl (And.intro rfl (And.intro trivial (And.intro trivial ?_)))))))
        refine Or.inl ?_
        refine Or.inl ?_
        refine Exists.intro (.take 0 (.take 1 (.take 2 (.take 4 (.take 5 (.take 6 (.alt 3 (.alt 7 (.take 8 (.take 9 .done)) .done) .done))))))) (Exists.intro [] (Exists.intro [] (And.intro rfl ?_)))
        refine And.intro trivial ?_
        obtain ⟨q7_3, hq7_3, hF⟩ := bindE hF
        refine Or.inl (And.intro f143_in (callV0 (callI C143 (a.1, r11.2) q7_3 [] true C143_holds hq7_3 rfl rfl ?_)))
        refine (And.intro rfl (And.intro rfl (And.intro (fun _ => rfl) (And.intro rfl (And.intro rfl (And.intro trivial (And.intro trivial ?_)))))))
        refine And.intro trivial ?_
        obtain ⟨q7_7, hq7_7, hF⟩ := bindE hF
        refine Or.inl (And.intro f143_in (callV0 (callI C143 (b.1, r11.2) q7_7 [] true C143_holds hq7_7 rfl rfl ?_)))
        refine (And.intro rfl (And.intro rfl (And.intro (fun _ => rfl) (And.intro rfl (And.intro rfl (And.intro trivial (And.intro trivial ?_)))))))
        refine Or.inl ?_
        refine Or.inl ?_
        obtain ⟨z13, hz13, hF⟩ := bindE hF
        refine loopI (Int × (List Int)) (List Int) (fun x => ⟨[(2, .raw false [(.c (.func (.func 125) #[] #[]))]), (3, .raw false [(.ptr 0 0)]), (4, .raw false [(.ptr 1 0)]), (6, .raw false [(.ptr 2 0)]), (10, .raw false [(.ptr 3 0)]), (12, .raw false [(.osl 4)]), (13, .raw false [(.osl 5)]), (51, .dat (.int .i64) (List.length r12.2.2 : Int)), (52, .dat (.int .i64) x.1)], [(0, .cells [(.d (.sl (.int .i64)) a.1), (.d (.sl (.int .i64)) a.2)]), (1, .cells [(.d (.sl (.int .i64)) b.1), (.d (.sl (.int .i64)) b.2)]), (2, .cells [(.c (.slice none 0 0)), (.c (.slice none 0 0))]), (3, .cells [(.osl 6), (.osl 7)]), (4, .arr 3 (.int .i64) q7_3), (5, .arr 3 (.int .i64) q7_7), (6, .arr 3 (.int .i64) r12.2.1), (7, .arr 33 (.int .i64) x.2)], 8⟩) (fun z => [(2, ⟨[(6, .raw false [(.ptr 0 0)]), (10, .raw false [(.ptr 1 0)])], [(0, .cells [(.c (.slice none 0 0)), (.c (.slice none 0 0))]), (1, .cells [(.osl 2), (.osl 3)]), (2, .arr 3 (.int .i64) r12.2.1), (3, .arr 33 (.int .i64) z)], 4⟩)]) (loopF (fun go x => f124_125_l4 a b r12 q7_3 q7_7 go x.1 x.2)) fuelN ((0 : Int), r12.2.2) z13 (And.intro hz13 (And.intro (Exists.intro [] (Exists.intro [] (Exists.intro [] (Exists.intro [] (Exists.intro [(0, some 0), (1, some 1), (2, some 2), (3, some 6), (4, some 7), (5, some 8), (6, some 4), (7, some 5)] (And.intro rfl (And.intro rfl (And.intro rfl (And.intro (And.intro rfl (And.intro rfl (And.intro rfl (And.intro rfl (And.intro rfl (And.intro rfl (And.intro rfl trivial))))))) (And.intro rfl (And.intro rfl (And.intro rfl (And.intro rfl (And.intro rfl (And.intro rfl (And.intro rfl (And.intro rfl trivial))))))))))))))))) (And.intro (fun _ _ h => loopZ h) (And.intro (fun m => curI (fun v52 => fun l7 z hF => ?_)) ?_))))
        · have hF : f124_125_l4 a b r12 q7_3 q7_7 (loopF (fun go x => f124_125_l4 a b r12 q7_3 q7_7 go x.1 x.2) m) v52 l7 = some z := hF
          unfold f124_125_l4 at hF
          refine Or.inl ?_
          refine Or.inl ?_
          refine condI hF (fun hF => ?_) (fun hF => ?_)
          · refine Or.inl ?_
            refine Or.inl ?_
            refine Exists.intro (.take 0 (.take 1 (.take 2 (.take 3 (.take 4 (.take 5 (.take 6 (.take 7 (.take 8 (.take 9 (.take 10 (.take 11 (.take 12 (.take 13 (.take 14 (.take 15 (.take 16 (.take 17 (.take 18 (.take 19 (.alt 20 (.take 21 (.alt 22 .done .done)) .done))))))))))))))))))))) (Exists.intro [] (Exists.intro [] (And.intro rfl ?_)))
            refine guardI hF (fun hF => ?_)
            refine guardI hF (fun hF => ?_)
            refine guardI hF (fun hF => ?_)
            refine guardI hF (fun hF => ?_)
            refine And.intro trivial ?_
            obtain ⟨q11_20, hq11_20, hF⟩ := bindE hF
            refine Or.inl (And.intro f125_in (callV0 (callI C125 ((rd (0 : Int) a.2 (rd (0 : Int) q7_3 v52)), (rd (0 : Int) b.2 (rd (0 : Int) q7_7 v52))) q11_20 [] false C125_holds hq11_20 rfl rfl ?_)))
            refine (And.intro rfl (And.intro rfl (And.intro (fun h => nomatch h) (And.intro rfl (And.intro rfl (And.intro trivial (And.intro trivial ?_)))))))
            refine guardI hF (fun hF => ?_)
            refine And.intro trivial ?_
            refine Or.inl ?_
            refine Exists.intro ((IntKind.i64.wrap (v52 + (1 : Int))), (List.set l7 (Int.toNat v52) q11_20)) (And.intro hF (Exists.intro [] (Exists.intro [] (Exists.intro [] (Exists.intro [] (Exists.intro [(0, some 0), (1, some 1), (2, some 2), (3, some 3), (4, some 4), (5, some 5), (6, some 6), (7, some 7)] (And.intro rfl (And.intro rfl (And.intro rfl (And.intro (And.intro rfl (And.intro rfl (And.intro rfl (And.intro rfl (And.intro rfl (And.intro rfl (And.intro rfl trivial))))))) (And.intro rfl (And.intro rfl (And.intro rfl (And.intro rfl (And.intro rfl (And.intro rfl (And.intro rfl (And.intro rfl trivial))))))))))))))))))
          · have hz := someE hF
            subst hz
            refine Exists.intro [] (Exists.intro [] (Exists.intro [] (Exists.intro [] (Exists.intro [(0, some 2), (1, some 3), (2, some 6), (3, some 7)] (And.intro rfl (And.intro (And.intro rfl (And.intro rfl trivial)) (And.intro rfl (And.intro rfl (And.intro rfl (And.intro rfl trivial))))))))))
        · refine And.intro ?_ trivial
          refine Or.inl ?_
          refine Or.inl ?_
          have hy := someE hF
          subst hy
          refine And.intro rfl (Exists.intro [] (Exists.intro [] (Exists.intro [] (Exists.intro [] (Exists.intro [(0, some 2), (1, some 3)] (And.intro rfl (And.intro rfl (And.intro (And.intro rfl trivial) (And.intro rfl (And.intro rfl trivial))))))))))
    · dsimp only [sumF] at hF
      refine And.intro ?_ trivial
      have hy := someE hF
      subst hy
      refine And.intro rfl (Exists.intro [] (Exists.intro [] (Exists.intro [] (Exists.intro [] (Exists.intro [(0, none), (1, none)] (And.intro rfl (And.intro rfl (And.intro (And.intro rfl trivial) (And.intro rfl (And.intro rfl trivial))))))))))
theorem C124_125_holds : C124_125.Holds Tryz.prog 124 := holds_of_vc tab_ok mixed (fn := Tryz.f124) (by kernel_rfl) rfl C124_125 (fun x y hF => C124_125_vc x.1 x.2 y hF)
theorem f124_125_in : ∃ fn, Tryz.prog.funcs[124]? = some fn ∧ fn.body.isSome = true ∧ (fn.name == "runtime.NumGoroutine") = false := ⟨Tryz.f124, by kernel_rfl, by kernel_rfl, by kernel_rfl⟩
end Go.Proofs
namespace Go.Proofs
open Go.AM
-- carousel/tens.Add
def f81 (a : (List Int) × (List Int)) (b : (List Int) × (List Int)) : Option (Int × (List Int) × (List Int)) :=
  bindF (f124_125 (a.1, a.2) (b.1, b.2)) fun r1 =>
  some (r1.1, r1.2.1, r1.2.2)
def C81 : Con where
  X := ((List Int) × (List Int)) × ((List Int) × (List Int))
  Y := Int × (List Int) × (List Int)
  e := 0
  args x := [.dat (.p (.sl (.int .i64)) (.sl (.int .i64))) x.1, .dat (.p (.sl (.int .i64)) (.sl (.int .i64))) x.2]
  hin x := []
  F x := f81 x.1 x.2
  ret y := [.raw true [(.osl 0), (.osl 1)], .dat (.int .i64) y.1]
  hout y := [(0, .arr 3 (.int .i64) y.2.1), (1, .arr 33 (.int .i64) y.2.2)]
  nout := 2
theorem C81_vc (a : (List Int) × (List Int)) (b : (List Int) × (List Int)) (y : Int × (List Int) × (List Int)) (hF : f81 a b = some y) : vc Tryz.prog tab Tryz.f81.ntmps 0 (match Tryz.f81.body with | some c => c | none => .skip) (retK tab C81 Tryz.f81.results.toList y) (C81.shIn (a, b)).st := by
  unfold f81 at hF
  refine Or.inl ?_
  refine Or.inl ?_
  obtain ⟨r1, hr1, hF⟩ := bindE hF
  refine Or.inl (And.intro f124_125_in (callV0 (callI C124_125 ((a.1, a.2), (b.1, b.2)) r1 [] false C124_125_holds hr1 rfl rfl ?_)))
  refine (And.intro rfl (And.intro rfl (And.intro rfl (And.intro rfl (And.intro (fun h => nomatch h) (And.intro rfl (And.intro rfl (And.intro (And.intro rfl trivial) (And.intro trivial ?_)))))))))
  refine Or.inl ?_
  have hy := someE hF
  subst hy
  refine And.intro rfl (Exists.intro [] (Exists.intro [] (Exists.intro [] (Exists.intro [] (Exists.intro [(0, some 3), (1, some 4)] (And.intro rfl (And.intro rfl (And.intro (And.intro rfl trivial) (And.intro rfl (And.intro rfl trivial))))))))))
theorem C81_holds : C81.Holds Tryz.prog 81 := holds_of_vc tab_ok mixed (fn := Tryz.f81) (by kernel_rfl) rfl C81 (fun x y hF => C81_vc x.1 x.2 y hF)
theorem f81_in : ∃ fn, Tryz.prog.funcs[81]? = some fn ∧ fn.body.isSome = true ∧ (fn.name == "runtime.NumGoroutine") = false := ⟨Tryz.f81, by kernel_rfl, by kernel_rfl, by kernel_rfl⟩
end Go.Proofs
namespace Go.Proofs
open Go.AM
-- carousel/fix.Sub
def f126_j1 (a : Int) (b : Int) : Option (Sum Unit Unit) :=
  bif ((decide (a < (0 : Int))) == (decide (b < (0 : Int)))) then
    some (Sum.inr ())
  else
    bif ((decide ((IntKind.i64.wrap (a - b)) < (0 : Int))) == (decide (a < (0 : Int)))) then
      some (Sum.inr ())
    else
      some (Sum.inl ())
def f126 (a : Int) (b : Int) : Option Int :=
  bindF (f126_j1 a b) fun z1 =>
  sumF z1 (fun z1a =>
    bif (decide (a < (0 : Int))) then
      some (-9223372036854775808 : Int)
    else
      some (9223372036854775807 : Int)) (fun z1b =>
    some (IntKind.i64.wrap (a - b)))
def C126 : Con where
  X := Int × Int
  Y := Int
  e := 0
  args x := [.dat (.int .i64) x.1, .dat (.int .i64) x.2]
  hin x := []
  F x := f126 x.1 x.2
  ret y := [.dat (.int .i64) y]
  hout y := []
  nout := 0
theorem C126_vc (a : Int) (b : Int) (y : Int) (hF : f126 a b = some y) : vc Tryz.prog tab Tryz.f126.ntmps 0 (match Tryz.f126.body with | some c => c | none => .skip) (retK tab C126 Tryz.f126.results.toList y) (C126.shIn (a, b)).st := by
  unfold f126 at hF
  refine Or.inl ?_
  refine Or.inl ?_
  obtain ⟨z1, hz1, hF⟩ := bindE hF
  refine Or.inr ⟨Sum.elim (fun z1a => [(0, ⟨[(0, .dat (.int .i64) a)], [], 0⟩)]) (fun z1b => [(1, ⟨[(4, .dat (.int .i64) (IntKind.i64.wrap (a - b)))], [], 0⟩)]) z1, ?_, ?_⟩
  · have hF := hz1
    clear hz1
    unfold f126_j1 at hF
    refine Or.inl ?_
    refine condN hF (fun hF => ?_) (fun hF => ?_)
    · refine gdYF ?_
      refine gdYF ?_
      refine gdYF ?_
      refine gdYF ?_
      refine condF ?_
      refine condI hF (fun hF => ?_) (fun hF => ?_)
      · refine Or.inl ?_
        have hz := someE hF
        subst hz
        refine Exists.intro [] (Exists.intro [] (Exists.intro [] (Exists.intro [] (Exists.intro [] (And.intro rfl (And.intro rfl (And.intro trivial trivial)))))))
      · have hz := someE hF
        subst hz
        refine Exists.intro [] (Exists.intro [] (Exists.intro [] (Exists.intro [] (Exists.intro [] (And.intro rfl (And.intro rfl (And.intro trivial trivial)))))))
    · refine gdNF ?_
      refine gdNF ?_
      refine gdNF ?_
      refine gdNF ?_
      refine condT ?_
      refine condT ?_
      refine Or.inl ?_
      have hz := someE hF
      subst hz
      refine Exists.intro [] (Exists.intro [] (Exists.intro [] (Exists.intro [] (Exists.intro [] (And.intro rfl (And.intro rfl (And.intro trivial trivial)))))))
  · rcases z1 with z1a | z1b
    · dsimp only [sumF] at hF
      refine And.intro ?_ trivial
      refine Or.inl ?_
      refine Or.inl ?_
      refine condI hF (fun hF => ?_) (fun hF => ?_)
      · refine Or.inl ?_
        have hy := someE hF
        subst hy
        refine And.intro rfl (Exists.intro [] (Exists.intro [] (Exists.intro [] (Exists.intro [] (Exists.intro [] (And.intro rfl (And.intro rfl (And.intro trivial trivial))))))))
      · refine Or.inl ?_
        have hy := someE hF
        subst hy
        refine And.intro rfl (Exists.intro [] (Exists.intro [] (Exists.intro [] (Exists.intro [] (Exists.intro [] (And.intro rfl (And.intro rfl (And.intro trivial trivial))))))))
    · dsimp only [sumF] at hF
      refine And.intro ?_ trivial
      have hy := someE hF
      subst hy
      refine And.intro rfl (Exists.intro [] (Exists.intro [] (Exists.intro [] (Exists.intro [] (Exists.intro [] (And.intro rfl (And.intro rfl (And.intro trivial trivial))))))))
theorem C126_holds : C126.Holds Tryz.prog 126 := holds_of_vc tab_ok mixed (fn := Tryz.f126) (by kernel_rfl) rfl C126 (fun x y hF => C126_vc x.1 x.2 y hF)
theorem f126_in : ∃ fn, Tryz.prog.funcs[126]? = some fn ∧ fn.body.isSome = true ∧ (fn.name == "runtime.NumGoroutine") = false := ⟨Tryz.f126, by kernel_rfl, by kernel_rfl, by kernel_rfl⟩
end Go.Proofs
