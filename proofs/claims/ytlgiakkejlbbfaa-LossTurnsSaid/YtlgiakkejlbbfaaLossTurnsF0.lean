import Derived.Test.YtlgiakkejlbbfaaFb
set_option linter.unusedVariables false
set_option maxRecDepth 100000
set_option maxHeartbeats 8000000
namespace Go.Proofs
open Go.AM
-- carousel/tape.New
def f7 : Option Unit :=
  some ()
def C7 : Con where
  X := Unit
  Y := Unit
  e := 0
  args x := []
  hin x := []
  F x := f7
  ret y := [.raw false [(.ptr 0 0)]]
  hout y := [(0, .cells [(.osl 1)]), (1, .arr 49 (.p (.int .i64) (.p (.int .i64) (.p (.int .i64) (.p (.int .i64) (.p (.sl (.int .i64)) (.sl (.int .i64))))))) ([]))]
  nout := 2
theorem C7_vc (y : Unit) (hF : f7 = some y) : vc Try.prog tab Try.f7.ntmps 0 (match Try.f7.body with | some c => c | none => .skip) (retK tab C7 Try.f7.results.toList y) (C7.shIn ()).st := by
  unfold f7 at hF
  refine Or.inl ?_
  refine Or.inl ?_
  have hy := someE hF
  subst hy
  refine And.intro rfl (Exists.intro [] (Exists.intro [] (Exists.intro [] (Exists.intro [] (Exists.intro [(0, some 0), (1, none)] (And.intro rfl (And.intro (And.intro rfl trivial) (And.intro rfl (And.intro rfl trivial)))))))))
theorem C7_holds : C7.Holds Try.prog 7 := holds_of_vc tab_ok mixed (fn := Try.f7) (by kernel_rfl) rfl C7 (fun x y hF => C7_vc y hF)
theorem f7_in : ∃ fn, Try.prog.funcs[7]? = some fn ∧ fn.body.isSome = true ∧ (fn.name == "runtime.NumGoroutine") = false := ⟨Try.f7, by kernel_rfl, by kernel_rfl, by kernel_rfl⟩
end Go.Proofs
namespace Go.Proofs
open Go.AM
-- carousel/carousellaw13.row
def f9 (v : List Int) : Option ((List Int) × (List Int)) :=
  some (v, [(List.length v : Int)])
def C9 : Con where
  X := List Int
  Y := (List Int) × (List Int)
  e := 0
  args x := [.dat (.sl (.int .i64)) x]
  hin x := []
  F x := f9 x
  ret y := [.raw true [(.osl 0), (.d (.sl (.int .i64)) y.1)]]
  hout y := [(0, .arr 3 (.int .i64) y.2)]
  nout := 1
theorem C9_vc (v : List Int) (y : (List Int) × (List Int)) (hF : f9 v = some y) : vc Try.prog tab Try.f9.ntmps 0 (match Try.f9.body with | some c => c | none => .skip) (retK tab C9 Try.f9.results.toList y) (C9.shIn v).st := by
  unfold f9 at hF
  refine Or.inl ?_
  refine Or.inl ?_
  refine Or.inl ?_
  refine Or.inl ?_
  have hy := someE hF
  subst hy
  refine And.intro rfl (Exists.intro [] (Exists.intro [] (Exists.intro [] (Exists.intro [] (Exists.intro [(0, some 1)] (And.intro rfl (And.intro (And.intro rfl trivial) (And.intro rfl trivial))))))))
theorem C9_holds : C9.Holds Try.prog 9 := holds_of_vc tab_ok mixed (fn := Try.f9) (by kernel_rfl) rfl C9 (fun x y hF => C9_vc x y hF)
theorem f9_in : ∃ fn, Try.prog.funcs[9]? = some fn ∧ fn.body.isSome = true ∧ (fn.name == "runtime.NumGoroutine") = false := ⟨Try.f9, by kernel_rfl, by kernel_rfl, by kernel_rfl⟩
end Go.Proofs
namespace Go.Proofs
open Go.AM
-- carousel/shape.product
def f34_j4 (d : List Int) (v11 : Int) : Option (Sum Unit Unit) :=
  bif (decide ((rd (0 : Int) d v11) < (1 : Int))) then
    some (Sum.inr ())
  else
    bif (decide ((rd (0 : Int) d v11) > (4096 : Int))) then
      some (Sum.inr ())
    else
      some (Sum.inl ())
def f34_l3 (d : List Int) (go : (Int × Int) → Option (Sum Unit Int)) (n : Int) (v11 : Int) : Option (Sum Unit Int) :=
  bif (decide (v11 < (List.length d : Int))) then
    guardF (0 ≤ v11 ∧ v11 < (List.length d : Int)) <|
    bindF (f34_j4 d v11) fun z4 =>
    sumF z4 (fun z4a =>
      bif (decide ((IntKind.i64.wrap (n * (rd (0 : Int) d v11))) > (4096 : Int))) then
        some (Sum.inl ())
      else
        go ((IntKind.i64.wrap (n * (rd (0 : Int) d v11))), (IntKind.i64.wrap (v11 + (1 : Int))))) (fun z4b =>
      some (Sum.inl ()))
  else
    some (Sum.inr n)
def f34 (d : List Int) : Option Int :=
  bif (decide ((List.length d : Int) > (4 : Int))) then
    some (0 : Int)
  else
    bindF (loopF (fun go x => f34_l3 d go x.1 x.2) fuelN ((1 : Int), (0 : Int))) fun z3 =>
    sumF z3 (fun z3a =>
      some (0 : Int)) (fun z3b =>
      some z3b)
def C34 : Con where
  X := List Int
  Y := Int
  e := 0
  args x := [.dat (.sl (.int .i64)) x]
  hin x := []
  F x := f34 x
  ret y := [.dat (.int .i64) y]
  hout y := []
  nout := 0
theorem C34_vc (d : List Int) (y : Int) (hF : f34 d = some y) : vc Try.prog tab Try.f34.ntmps 0 (match Try.f34.body with | some c => c | none => .skip) (retK tab C34 Try.f34.results.toList y) (C34.shIn d).st := by
  unfold f34 at hF
  refine Or.inl ?_
  refine Or.inl ?_
  refine Or.inl ?_
  refine condI hF (fun hF => ?_) (fun hF => ?_)
  · refine Or.inl ?_
    have hy := someE hF
    subst hy
    refine And.intro rfl (Exists.intro [] (Exists.intro [] (Exists.intro [] (Exists.intro [] (Exists.intro [] (And.intro rfl (And.intro rfl (And.intro trivial trivial))))))))
  · refine Or.inl ?_
    refine Or.inl ?_
    refine Or.inl ?_
    obtain ⟨z3, hz3, hF⟩ := bindE hF
    refine loopI (Int × Int) (Sum Unit Int) (fun x => ⟨[(3, .dat (.int .i64) x.1), (9, .dat (.sl (.int .i64)) d), (10, .dat (.int .i64) (List.length d : Int)), (11, .dat (.int .i64) x.2)], [], 0⟩) (fun z => Sum.elim (fun za => [(1, ⟨[(2, .dat (.int .i64) (0 : Int))], [], 0⟩)]) (fun zb => [(2, ⟨[(3, .dat (.int .i64) zb)], [], 0⟩)]) z) (loopF (fun go x => f34_l3 d go x.1 x.2)) fuelN ((1 : Int), (0 : Int)) z3 (And.intro hz3 (And.intro (Exists.intro [] (Exists.intro [] (Exists.intro [] (Exists.intro [] (Exists.intro [] (And.intro rfl (And.intro rfl (And.intro rfl (And.intro rfl (And.intro rfl (And.intro trivial trivial))))))))))) (And.intro (fun _ _ h => loopZ h) (And.intro (fun m => curI (fun n => fun v11 z hF => ?_)) ?_))))
    · have hF : f34_l3 d (loopF (fun go x => f34_l3 d go x.1 x.2) m) n v11 = some z := hF
      unfold f34_l3 at hF
      refine Or.inl ?_
      refine Or.inl ?_
      refine condI hF (fun hF => ?_) (fun hF => ?_)
      · refine Or.inl ?_
        refine Or.inl ?_
        refine guardI hF (fun hF => ?_)
        obtain ⟨z4, hz4, hF⟩ := bindE hF
        refine Or.inr ⟨Sum.elim (fun z4a => [(0, ⟨[(3, .dat (.int .i64) n), (5, .dat (.int .i64) (rd (0 : Int) d v11)), (9, .dat (.sl (.int .i64)) d), (10, .dat (.int .i64) (List.length d : Int)), (11, .dat (.int .i64) v11)], [], 0⟩)]) (fun z4b => [(1, ⟨[(2, .dat (.int .i64) (0 : Int))], [], 0⟩)]) z4, ?_, ?_⟩
        · have hF := hz4
          clear hz4
          unfold f34_j4 at hF
          refine Or.inl ?_
          refine condN hF (fun hF => ?_) (fun hF => ?_)
          · refine gdYF ?_
            refine condF ?_
            refine condI hF (fun hF => ?_) (fun hF => ?_)
            · refine Or.inl ?_
              have hz := someE hF
              subst hz
              refine Exists.intro [] (Exists.intro [] (Exists.intro [] (Exists.intro [] (Exists.intro [] (And.intro rfl (And.intro rfl (And.intro trivial trivial)))))))
            · have hz := someE hF
              subst hz
              refine Exists.intro [] (Exists.intro [] (Exists.intro [] (Exists.intro [] (Exists.intro [] (And.intro rfl (And.intro rfl (And.intro rfl (And.intro rfl (And.intro rfl (And.intro rfl (And.intro trivial trivial)))))))))))
          · refine gdNF ?_
            refine condT ?_
            refine condT ?_
            refine Or.inl ?_
            have hz := someE hF
            subst hz
            refine Exists.intro [] (Exists.intro [] (Exists.intro [] (Exists.intro [] (Exists.intro [] (And.intro rfl (And.intro rfl (And.intro trivial trivial)))))))
        · rcases z4 with z4a | z4b
          · dsimp only [sumF] at hF
            refine And.intro ?_ trivial
            refine Or.inl ?_
            refine Or.inl ?_
            refine condI hF (fun hF => ?_) (fun hF => ?_)
            · refine Or.inl ?_
              have hz := someE hF
              subst hz
              refine Exists.intro [] (Exists.intro [] (Exists.intro [] (Exists.intro [] (Exists.intro [] (And.intro rfl (And.intro rfl (And.intro trivial trivial)))))))
            · refine Exists.intro ((IntKind.i64.wrap (n * (rd (0 : Int) d v11))), (IntKind.i64.wrap (v11 + (1 : Int)))) (And.intro hF (Exists.intro [] (Exists.intro [] (Exists.intro [] (Exists.intro [] (Exists.intro [] (And.intro rfl (And.intro rfl (And.intro rfl (And.intro rfl (And.intro rfl (And.intro trivial trivial))))))))))))
          · dsimp only [sumF] at hF
            refine And.intro ?_ trivial
            have hz := someE hF
            subst hz
            refine Exists.intro [] (Exists.intro [] (Exists.intro [] (Exists.intro [] (Exists.intro [] (And.intro rfl (And.intro rfl (And.intro trivial trivial)))))))
      · have hz := someE hF
        subst hz
        refine Exists.intro [] (Exists.intro [] (Exists.intro [] (Exists.intro [] (Exists.intro [] (And.intro rfl (And.intro rfl (And.intro trivial trivial)))))))
    · rcases z3 with z3a | z3b
      · dsimp only [sumF] at hF
        refine And.intro ?_ trivial
        have hy := someE hF
        subst hy
        refine And.intro rfl (Exists.intro [] (Exists.intro [] (Exists.intro [] (Exists.intro [] (Exists.intro [] (And.intro rfl (And.intro rfl (And.intro trivial trivial))))))))
      · dsimp only [sumF] at hF
        refine And.intro ?_ trivial
        refine Or.inl ?_
        have hy := someE hF
        subst hy
        refine And.intro rfl (Exists.intro [] (Exists.intro [] (Exists.intro [] (Exists.intro [] (Exists.intro [] (And.intro rfl (And.intro rfl (And.intro trivial trivial))))))))
theorem C34_holds : C34.Holds Try.prog 34 := holds_of_vc tab_ok mixed (fn := Try.f34) (by kernel_rfl) rfl C34 (fun x y hF => C34_vc x y hF)
theorem f34_in : ∃ fn, Try.prog.funcs[34]? = some fn ∧ fn.body.isSome = true ∧ (fn.name == "runtime.NumGoroutine") = false := ⟨Try.f34, by kernel_rfl, by kernel_rfl, by kernel_rfl⟩
end Go.Proofs
namespace Go.Proofs
open Go.AM
-- carousel/shape.Good
def f25 (d : List Int) : Option Bool :=
  bindF (f34 d) fun r1 =>
  some (decide (r1 > (0 : Int)))
def C25 : Con where
  X := List Int
  Y := Bool
  e := 0
  args x := [.dat (.sl (.int .i64)) x]
  hin x := []
  F x := f25 x
  ret y := [.dat .bool y]
  hout y := []
  nout := 0
theorem C25_vc (d : List Int) (y : Bool) (hF : f25 d = some y) : vc Try.prog tab Try.f25.ntmps 0 (match Try.f25.body with | some c => c | none => .skip) (retK tab C25 Try.f25.results.toList y) (C25.shIn d).st := by
  unfold f25 at hF
  refine Or.inl ?_
  refine Or.inl ?_
  obtain ⟨r1, hr1, hF⟩ := bindE hF
  refine Or.inl (And.intro f34_in (callV0 (callI C34 d r1 [] false C34_holds hr1 rfl rfl ?_)))
  refine (And.intro rfl (And.intro (fun h => nomatch h) (And.intro rfl (And.intro rfl (And.intro trivial (And.intro trivial ?_))))))
  have hy := someE hF
  subst hy
  refine And.intro rfl (Exists.intro [] (Exists.intro [] (Exists.intro [] (Exists.intro [] (Exists.intro [] (And.intro rfl (And.intro rfl (And.intro trivial trivial))))))))
theorem C25_holds : C25.Holds Try.prog 25 := holds_of_vc tab_ok mixed (fn := Try.f25) (by kernel_rfl) rfl C25 (fun x y hF => C25_vc x y hF)
theorem f25_in : ∃ fn, Try.prog.funcs[25]? = some fn ∧ fn.body.isSome = true ∧ (fn.name == "runtime.NumGoroutine") = false := ⟨Try.f25, by kernel_rfl, by kernel_rfl, by kernel_rfl⟩
end Go.Proofs
namespace Go.Proofs
open Go.AM
-- carousel/shape.Size
def f26 (d : List Int) : Option Int :=
  bindF (f34 d) fun r1 =>
  some r1
def C26 : Con where
  X := List Int
  Y := Int
  e := 0
  args x := [.dat (.sl (.int .i64)) x]
  hin x := []
  F x := f26 x
  ret y := [.dat (.int .i64) y]
  hout y := []
  nout := 0
theorem C26_vc (d : List Int) (y : Int) (hF : f26 d = some y) : vc Try.prog tab Try.f26.ntmps 0 (match Try.f26.body with | some c => c | none => .skip) (retK tab C26 Try.f26.results.toList y) (C26.shIn d).st := by
  unfold f26 at hF
  refine Or.inl ?_
  refine Or.inl ?_
  obtain ⟨r1, hr1, hF⟩ := bindE hF
  refine Or.inl (And.intro f34_in (callV0 (callI C34 d r1 [] false C34_holds hr1 rfl rfl ?_)))
  refine (And.intro rfl (And.intro (fun h => nomatch h) (And.intro rfl (And.intro rfl (And.intro trivial (And.intro trivial ?_))))))
  have hy := someE hF
  subst hy
  refine And.intro rfl (Exists.intro [] (Exists.intro [] (Exists.intro [] (Exists.intro [] (Exists.intro [] (And.intro rfl (And.intro rfl (And.intro trivial trivial))))))))
theorem C26_holds : C26.Holds Try.prog 26 := holds_of_vc tab_ok mixed (fn := Try.f26) (by kernel_rfl) rfl C26 (fun x y hF => C26_vc x y hF)
theorem f26_in : ∃ fn, Try.prog.funcs[26]? = some fn ∧ fn.body.isSome = true ∧ (fn.name == "runtime.NumGoroutine") = false := ⟨Try.f26, by kernel_rfl, by kernel_rfl, by kernel_rfl⟩
end Go.Proofs
namespace Go.Proofs
open Go.AM
-- carousel/tens.Good
def f14 (t : (List Int) × (List Int)) : Option Bool :=
  bindF (f25 t.1) fun q1_2 =>
  bif q1_2 then
    bindF (f26 t.1) fun q1_9 =>
    some ((List.length t.2 : Int) == q1_9)
  else
    some false
def C14 : Con where
  X := (List Int) × (List Int)
  Y := Bool
  e := 0
  args x := [.dat (.p (.sl (.int .i64)) (.sl (.int .i64))) x]
  hin x := []
  F x := f14 x
  ret y := [.dat .bool y]
  hout y := []
  nout := 0
theorem C14_vc (t : (List Int) × (List Int)) (y : Bool) (hF : f14 t = some y) : vc Try.prog tab Try.f14.ntmps 0 (match Try.f14.body with | some c => c | none => .skip) (retK tab C14 Try.f14.results.toList y) (C14.shIn t).st := by
  unfold f14 at hF
  refine Or.inl ?_
  refine Or.inl ?_
  refine Exists.intro (.take 0 (.take 1 (.alt 2 (.take 3 (.take 4 (.take 5 (.take 6 (.take 7 (.take 8 (.alt 9 (.take 10 (.take 11 (.take 12 .done))) .done))))))) .done))) (Exists.intro [] (Exists.intro [] (And.intro rfl ?_)))
  refine And.intro trivial ?_
  obtain ⟨q1_2, hq1_2, hF⟩ := bindE hF
  refine Or.inl (And.intro f25_in (callV0 (callI C25 t.1 q1_2 [] false C25_holds hq1_2 rfl rfl ?_)))
  refine (And.intro rfl (And.intro (fun h => nomatch h) (And.intro rfl (And.intro rfl (And.intro trivial (And.intro trivial ?_))))))
  refine condI hF (fun hF => ?_) (fun hF => ?_)
  · refine gdYT ?_
    refine gdYT ?_
    refine gdYT ?_
    refine gdYT ?_
    refine And.intro trivial ?_
    refine gdYT ?_
    obtain ⟨q1_9, hq1_9, hF⟩ := bindE hF
    refine Or.inl (And.intro f26_in (callV0 (callI C26 t.1 q1_9 [] false C26_holds hq1_9 rfl rfl ?_)))
    refine (And.intro rfl (And.intro (fun h => nomatch h) (And.intro rfl (And.intro rfl (And.intro trivial (And.intro trivial ?_))))))
    refine gdYT ?_
    refine condT ?_
    have hy := someE hF
    subst hy
    refine And.intro rfl (Exists.intro [] (Exists.intro [] (Exists.intro [] (Exists.intro [] (Exists.intro [] (And.intro rfl (And.intro rfl (And.intro trivial trivial))))))))
  · refine gdNT ?_
    refine gdNT ?_
    refine gdNT ?_
    refine gdNT ?_
    refine And.intro trivial ?_
    refine gdNT ?_
    refine gdNT ?_
    refine condF ?_
    have hy := someE hF
    subst hy
    refine And.intro rfl (Exists.intro [] (Exists.intro [] (Exists.intro [] (Exists.intro [] (Exists.intro [] (And.intro rfl (And.intro rfl (And.intro trivial trivial))))))))
theorem C14_holds : C14.Holds Try.prog 14 := holds_of_vc tab_ok mixed (fn := Try.f14) (by kernel_rfl) rfl C14 (fun x y hF => C14_vc x y hF)
theorem f14_in : ∃ fn, Try.prog.funcs[14]? = some fn ∧ fn.body.isSome = true ∧ (fn.name == "runtime.NumGoroutine") = false := ⟨Try.f14, by kernel_rfl, by kernel_rfl, by kernel_rfl⟩
end Go.Proofs
namespace Go.Proofs
open Go.AM
-- slices.Clone[[]int,int]
def f27 (s : List Int) : Option (List Int) :=
  nilF s
    (some ([]))
    (guardF ((List.length ([] : List Int) + List.length s) * 8 ≤ 140737488355328) <|
     some (([] : List Int) ++ s))
def C27 : Con where
  X := List Int
  Y := List Int
  e := 0
  args x := [.dat (.sl (.int .i64)) x]
  hin x := []
  F x := f27 x
  ret y := [.raw false [(.osl 0)]]
  hout y := [(0, .arr 3 (.int .i64) y)]
  nout := 1
theorem C27_vc (s : List Int) (y : List Int) (hF : f27 s = some y) : vc Try.prog tab Try.f27.ntmps 0 (match Try.f27.body with | some c => c | none => .skip) (retK tab C27 Try.f27.results.toList y) (C27.shIn s).st := by
  unfold f27 at hF
  refine Or.inl ?_
  refine Or.inl ?_
  refine Or.inl ?_
  refine nilI hF (fun hF => ?_) (fun hF => ?_)
  · refine condT ?_
    refine Or.inl ?_
    have hy := someE hF
    subst hy
    refine And.intro rfl (Exists.intro [] (Exists.intro [] (Exists.intro [] (Exists.intro [] (Exists.intro [(0, none)] (And.intro rfl (And.intro (And.intro rfl trivial) (And.intro rfl trivial))))))))
  · refine condF ?_
    refine Or.inl ?_
    refine Or.inl ?_
    refine Or.inl ?_
    refine guardI hF (fun hF => ?_)
    have hy := someE hF
    subst hy
    refine And.intro rfl (Exists.intro [] (Exists.intro [] (Exists.intro [] (Exists.intro [] (Exists.intro [(0, some 1)] (And.intro rfl (And.intro (And.intro rfl trivial) (And.intro rfl trivial))))))))
theorem C27_holds : C27.Holds Try.prog 27 := holds_of_vc tab_ok mixed (fn := Try.f27) (by kernel_rfl) rfl C27 (fun x y hF => C27_vc x y hF)
theorem f27_in : ∃ fn, Try.prog.funcs[27]? = some fn ∧ fn.body.isSome = true ∧ (fn.name == "runtime.NumGoroutine") = false := ⟨Try.f27, by kernel_rfl, by kernel_rfl, by kernel_rfl⟩
end Go.Proofs
namespace Go.Proofs
open Go.AM
-- slices.Clone[[]carousel/api.Fix,carousel/api.Fix]
def f28 (s : List Int) : Option (List Int) :=
  nilF s
    (some ([]))
    (guardF ((List.length ([] : List Int) + List.length s) * 8 ≤ 140737488355328) <|
     some (([] : List Int) ++ s))
def C28 : Con where
  X := List Int
  Y := List Int
  e := 0
  args x := [.dat (.sl (.int .i64)) x]
  hin x := []
  F x := f28 x
  ret y := [.raw false [(.osl 0)]]
  hout y := [(0, .arr 24 (.int .i64) y)]
  nout := 1
theorem C28_vc (s : List Int) (y : List Int) (hF : f28 s = some y) : vc Try.prog tab Try.f28.ntmps 0 (match Try.f28.body with | some c => c | none => .skip) (retK tab C28 Try.f28.results.toList y) (C28.shIn s).st := by
  unfold f28 at hF
  refine Or.inl ?_
  refine Or.inl ?_
  refine Or.inl ?_
  refine nilI hF (fun hF => ?_) (fun hF => ?_)
  · refine condT ?_
    refine Or.inl ?_
    have hy := someE hF
    subst hy
    refine And.intro rfl (Exists.intro [] (Exists.intro [] (Exists.intro [] (Exists.intro [] (Exists.intro [(0, none)] (And.intro rfl (And.intro (And.intro rfl trivial) (And.intro rfl trivial))))))))
  · refine condF ?_
    refine Or.inl ?_
    refine Or.inl ?_
    refine Or.inl ?_
    refine guardI hF (fun hF => ?_)
    have hy := someE hF
    subst hy
    refine And.intro rfl (Exists.intro [] (Exists.intro [] (Exists.intro [] (Exists.intro [] (Exists.intro [(0, some 1)] (And.intro rfl (And.intro (And.intro rfl trivial) (And.intro rfl trivial))))))))
theorem C28_holds : C28.Holds Try.prog 28 := holds_of_vc tab_ok mixed (fn := Try.f28) (by kernel_rfl) rfl C28 (fun x y hF => C28_vc x y hF)
theorem f28_in : ∃ fn, Try.prog.funcs[28]? = some fn ∧ fn.body.isSome = true ∧ (fn.name == "runtime.NumGoroutine") = false := ⟨Try.f28, by kernel_rfl, by kernel_rfl, by kernel_rfl⟩
end Go.Proofs
namespace Go.Proofs
open Go.AM
-- carousel/tens.Copy
def f16 (t : (List Int) × (List Int)) : Option ((List Int) × (List Int)) :=
  bindF (f27 t.1) fun q1_2 =>
  bindF (f28 t.2) fun q1_5 =>
  some (q1_2, q1_5)
def C16 : Con where
  X := (List Int) × (List Int)
  Y := (List Int) × (List Int)
  e := 0
  args x := [.dat (.p (.sl (.int .i64)) (.sl (.int .i64))) x]
  hin x := []
  F x := f16 x
  ret y := [.raw true [(.osl 0), (.osl 1)]]
  hout y := [(0, .arr 3 (.int .i64) y.1), (1, .arr 24 (.int .i64) y.2)]
  nout := 2
theorem C16_vc (t : (List Int) × (List Int)) (y : (List Int) × (List Int)) (hF : f16 t = some y) : vc Try.prog tab Try.f16.ntmps 0 (match Try.f16.body with | some c => c | none => .skip) (retK tab C16 Try.f16.results.toList y) (C16.shIn t).st := by
  unfold f16 at hF
  refine Or.inl ?_
  refine Or.inl ?_
  refine Exists.intro (.take 0 (.take 1 (.take 3 (.take 4 (.alt 2 (.alt 5 (.take 6 (.alt 7 .done .done)) .done) .done))))) (Exists.intro [] (Exists.intro [] (And.intro rfl ?_)))
  refine And.intro trivial ?_
  obtain ⟨q1_2, hq1_2, hF⟩ := bindE hF
  refine Or.inl (And.intro f27_in (callV0 (callI C27 t.1 q1_2 [] false C27_holds hq1_2 rfl rfl ?_)))
  refine (And.intro rfl (And.intro (fun h => nomatch h) (And.intro rfl (And.intro rfl (And.intro trivial (And.intro trivial ?_))))))
  refine And.intro trivial ?_
  obtain ⟨q1_5, hq1_5, hF⟩ := bindE hF
  refine Or.inl (And.intro f28_in (callV0 (callI C28 t.2 q1_5 [] false C28_holds hq1_5 rfl rfl ?_)))
  refine (And.intro rfl (And.intro (fun h => nomatch h) (And.intro rfl (And.intro rfl (And.intro trivial (And.intro trivial ?_))))))
  refine And.intro trivial ?_
  refine Or.inl ?_
  have hy := someE hF
  subst hy
  refine And.intro rfl (Exists.intro [] (Exists.intro [] (Exists.intro [] (Exists.intro [] (Exists.intro [(0, some 2), (1, some 3)] (And.intro rfl (And.intro (And.intro rfl trivial) (And.intro rfl (And.intro rfl trivial)))))))))
theorem C16_holds : C16.Holds Try.prog 16 := holds_of_vc tab_ok mixed (fn := Try.f16) (by kernel_rfl) rfl C16 (fun x y hF => C16_vc x y hF)
theorem f16_in : ∃ fn, Try.prog.funcs[16]? = some fn ∧ fn.body.isSome = true ∧ (fn.name == "runtime.NumGoroutine") = false := ⟨Try.f16, by kernel_rfl, by kernel_rfl, by kernel_rfl⟩
end Go.Proofs
namespace Go.Proofs
open Go.AM
-- (*carousel/tape.Tape).add
def f15 (t_l : List (Int × Int × Int × Int × (List Int) × (List Int))) (n : Int × Int × Int × Int × (List Int) × (List Int)) : Option (Int × (List (Int × Int × Int × Int × (List Int) × (List Int)))) :=
  guardF ((List.length t_l + List.length ([(n.1, n.2.1, n.2.2.1, n.2.2.2.1, n.2.2.2.2.1, n.2.2.2.2.2)])) * 80 ≤ 140737488355328) <|
  some ((IntKind.i64.wrap ((List.length (t_l ++ ([(n.1, n.2.1, n.2.2.1, n.2.2.2.1, n.2.2.2.2.1, n.2.2.2.2.2)])) : Int) - (1 : Int))), (t_l ++ ([(n.1, n.2.1, n.2.2.1, n.2.2.2.1, n.2.2.2.2.1, n.2.2.2.2.2)])))
def C15 : Con where
  X := (List (Int × Int × Int × Int × (List Int) × (List Int))) × (Int × Int × Int × Int × (List Int) × (List Int))
  Y := Int × (List (Int × Int × Int × Int × (List Int) × (List Int)))
  e := 2
  args x := [.raw false [(.ptr 0 0)], .dat (.p (.int .i64) (.p (.int .i64) (.p (.int .i64) (.p (.int .i64) (.p (.sl (.int .i64)) (.sl (.int .i64))))))) x.2]
  hin x := [(0, .cells [(.osl 1)]), (1, .arr 49 (.p (.int .i64) (.p (.int .i64) (.p (.int .i64) (.p (.int .i64) (.p (.sl (.int .i64)) (.sl (.int .i64))))))) x.1)]
  F x := f15 x.1 x.2
  ret y := [.dat (.int .i64) y.1, .dat (.int .i64) (0 : Int)]
  hout y := [(0, .cells [(.osl 2)]), (2, .arr 49 (.p (.int .i64) (.p (.int .i64) (.p (.int .i64) (.p (.int .i64) (.p (.sl (.int .i64)) (.sl (.int .i64))))))) y.2)]
  nout := 3
theorem C15_vc (t_l : List (Int × Int × Int × Int × (List Int) × (List Int))) (n : Int × Int × Int × Int × (List Int) × (List Int)) (y : Int × (List (Int × Int × Int × Int × (List Int) × (List Int)))) (hF : f15 t_l n = some y) : vc Try.prog tab Try.f15.ntmps 2 (match Try.f15.body with | some c => c | none => .skip) (retK tab C15 Try.f15.results.toList y) (C15.shIn (t_l, n)).st := by
  unfold f15 at hF
  refine Or.inl ?_
  refine Or.inl ?_
  refine Exists.intro (.take 0 (.take 1 (.take 2 (.take 3 (.take 4 (.take 5 (.alt 6 (.alt 7 (.take 8 (.take 9 (.alt 10 .done .done))) .done) .done))))))) (Exists.intro [(10, [0])] (Exists.intro [] (And.intro rfl ?_)))
  refine And.intro trivial ?_
  refine Or.inl ?_
  refine And.intro trivial ?_
  refine Or.inl ?_
  refine guardI hF (fun hF => ?_)
  refine And.intro trivial ?_
  refine Or.inl ?_
  refine Or.inl ?_
  have hy := someE hF
  subst hy
  refine And.intro rfl (Exists.intro [] (Exists.intro [] (Exists.intro [] (Exists.intro [] (Exists.intro [(0, some 0), (2, some 4)] (And.intro rfl (And.intro rfl (And.intro rfl (And.intro trivial (And.intro rfl (And.intro rfl trivial)))))))))))
theorem C15_holds : C15.Holds Try.prog 15 := holds_of_vc tab_ok mixed (fn := Try.f15) (by kernel_rfl) rfl C15 (fun x y hF => C15_vc x.1 x.2 y hF)
theorem f15_in : ∃ fn, Try.prog.funcs[15]? = some fn ∧ fn.body.isSome = true ∧ (fn.name == "runtime.NumGoroutine") = false := ⟨Try.f15, by kernel_rfl, by kernel_rfl, by kernel_rfl⟩
end Go.Proofs
namespace Go.Proofs
open Go.AM
-- (*carousel/tape.Tape).Leaf
def f8 (t_l : List (Int × Int × Int × Int × (List Int) × (List Int))) (x_ : (List Int) × (List Int)) : Option (Int × Int × (List (Int × Int × Int × Int × (List Int) × (List Int)))) :=
  bif (decide ((List.length t_l : Int) ≥ (512 : Int))) then
    some ((0 : Int), (2 : Int), t_l)
  else
    bindF (f14 (x_.1, x_.2)) fun r1 =>
    bif (!r1) then
      some ((0 : Int), (1 : Int), t_l)
    else
      bindF (f16 (x_.1, x_.2)) fun r2 =>
      bindF (f15 t_l ((1 : Int), (-1 : Int), (-1 : Int), (0 : Int), r2.1, r2.2)) fun r3 =>
      some (r3.1, (0 : Int), r3.2)
def C8 : Con where
  X := (List (Int × Int × Int × Int × (List Int) × (List Int))) × ((List Int) × (List Int))
  Y := Int × Int × (List (Int × Int × Int × Int × (List Int) × (List Int)))
  e := 2
  args x := [.raw false [(.ptr 0 0)], .dat (.p (.sl (.int .i64)) (.sl (.int .i64))) x.2]
  hin x := [(0, .cells [(.osl 1)]), (1, .arr 49 (.p (.int .i64) (.p (.int .i64) (.p (.int .i64) (.p (.int .i64) (.p (.sl (.int .i64)) (.sl (.int .i64))))))) x.1)]
  F x := f8 x.1 x.2
  ret y := [.dat (.int .i64) y.1, .dat (.int .i64) y.2.1]
  hout y := [(0, .cells [(.osl 2)]), (2, .arr 49 (.p (.int .i64) (.p (.int .i64) (.p (.int .i64) (.p (.int .i64) (.p (.sl (.int .i64)) (.sl (.int .i64))))))) y.2.2)]
  nout := 3
theorem C8_vc (t_l : List (Int × Int × Int × Int × (List Int) × (List Int))) (x_ : (List Int) × (List Int)) (y : Int × Int × (List (Int × Int × Int × Int × (List Int) × (List Int)))) (hF : f8 t_l x_ = some y) : vc Try.prog tab Try.f8.ntmps 2 (match Try.f8.body with | some c => c | none => .skip) (retK tab C8 Try.f8.results.toList y) (C8.shIn (t_l, x_)).st := by
  unfold f8 at hF
  refine Or.inl ?_
  refine Or.inl ?_
  refine Or.inl ?_
  refine condI hF (fun hF => ?_) (fun hF => ?_)
  · refine Or.inl ?_
    have hy := someE hF
    subst hy
    refine And.intro rfl (Exists.intro [] (Exists.intro [] (Exists.intro [] (Exists.intro [] (Exists.intro [(0, some 0), (2, some 1)] (And.intro rfl (And.intro rfl (And.intro rfl (And.intro trivial (And.intro rfl (And.intro rfl trivial)))))))))))
  · refine Or.inl ?_
    obtain ⟨r1, hr1, hF⟩ := bindE hF
    refine Or.inl (And.intro f14_in (callV0 (callI C14 (x_.1, x_.2) r1 [] false C14_holds hr1 rfl rfl ?_)))
    refine (And.intro rfl (And.intro rfl (And.intro (fun h => nomatch h) (And.intro rfl (And.intro rfl (And.intro trivial (And.intro trivial ?_)))))))
    refine condI hF (fun hF => ?_) (fun hF => ?_)
    · refine Or.inl ?_
      have hy := someE hF
      subst hy
      refine And.intro rfl (Exists.intro [] (Exists.intro [] (Exists.intro [] (Exists.intro [] (Exists.intro [(0, some 0), (2, some 1)] (And.intro rfl (And.intro rfl (And.intro rfl (And.intro trivial (And.intro rfl (And.intro rfl trivial)))))))))))
    · refine Or.inl ?_
      obtain ⟨r2, hr2, hF⟩ := bindE hF
      refine Or.inl (And.intro f16_in (callV0 (callI C16 (x_.1, x_.2) r2 [] false C16_holds hr2 rfl rfl ?_)))
      refine (And.intro rfl (And.intro rfl (And.intro (fun h => nomatch h) (And.intro rfl (And.intro rfl (And.intro trivial (And.intro trivial ?_)))))))
      obtain ⟨r3, hr3, hF⟩ := bindE hF
      have hr3 : C15.F (t_l, ((1 : Int), (-1 : Int), (-1 : Int), (0 : Int), r2.1, r2.2)) = some r3 := hr3
      refine Or.inl (And.intro f15_in (callV0 (callI C15 _ r3 [(0, some 0), (1, some 1)] false C15_holds hr3 rfl rfl ?_)))
      refine (And.intro rfl (And.intro rfl (And.intro (fun h => nomatch h) (And.intro rfl (And.intro rfl (And.intro (And.intro rfl trivial) (And.intro (And.intro rfl (And.intro rfl trivial)) ?_)))))))
      have hy := someE hF
      subst hy
      refine And.intro rfl (Exists.intro [] (Exists.intro [] (Exists.intro [] (Exists.intro [] (Exists.intro [(0, some 0), (2, some 7)] (And.intro rfl (And.intro rfl (And.intro rfl (And.intro trivial (And.intro rfl (And.intro rfl trivial)))))))))))
theorem C8_holds : C8.Holds Try.prog 8 := holds_of_vc tab_ok mixed (fn := Try.f8) (by kernel_rfl) rfl C8 (fun x y hF => C8_vc x.1 x.2 y hF)
theorem f8_in : ∃ fn, Try.prog.funcs[8]? = some fn ∧ fn.body.isSome = true ∧ (fn.name == "runtime.NumGoroutine") = false := ⟨Try.f8, by kernel_rfl, by kernel_rfl, by kernel_rfl⟩
end Go.Proofs
namespace Go.Proofs
open Go.AM
-- (*carousel/tape.Tape).has
def f32 (t_l : List (Int × Int × Int × Int × (List Int) × (List Int))) (n : Int) : Option (Bool × (List (Int × Int × Int × Int × (List Int) × (List Int)))) :=
  bif (decide (n ≥ (0 : Int))) then
    some ((decide (n < (List.length t_l : Int))), t_l)
  else
    some (false, t_l)
def C32 : Con where
  X := (List (Int × Int × Int × Int × (List Int) × (List Int))) × Int
  Y := Bool × (List (Int × Int × Int × Int × (List Int) × (List Int)))
  e := 2
  args x := [.raw false [(.ptr 0 0)], .dat (.int .i64) x.2]
  hin x := [(0, .cells [(.osl 1)]), (1, .arr 49 (.p (.int .i64) (.p (.int .i64) (.p (.int .i64) (.p (.int .i64) (.p (.sl (.int .i64)) (.sl (.int .i64))))))) x.1)]
  F x := f32 x.1 x.2
  ret y := [.dat .bool y.1]
  hout y := [(0, .cells [(.osl 1)]), (1, .arr 49 (.p (.int .i64) (.p (.int .i64) (.p (.int .i64) (.p (.int .i64) (.p (.sl (.int .i64)) (.sl (.int .i64))))))) y.2)]
  nout := 2
theorem C32_vc (t_l : List (Int × Int × Int × Int × (List Int) × (List Int))) (n : Int) (y : Bool × (List (Int × Int × Int × Int × (List Int) × (List Int)))) (hF : f32 t_l n = some y) : vc Try.prog tab Try.f32.ntmps 2 (match Try.f32.body with | some c => c | none => .skip) (retK tab C32 Try.f32.results.toList y) (C32.shIn (t_l, n)).st := by
  unfold f32 at hF
  refine Or.inl ?_
  refine Or.inl ?_
  refine condI hF (fun hF => ?_) (fun hF => ?_)
  · refine gdYT ?_
    refine gdYT ?_
    refine gdYT ?_
    refine gdYT ?_
    refine gdYT ?_
    refine gdYT ?_
    refine condT ?_
    have hy := someE hF
    subst hy
    refine And.intro rfl (Exists.intro [] (Exists.intro [] (Exists.intro [] (Exists.intro [] (Exists.intro [(0, some 0), (1, some 1)] (And.intro rfl (And.intro rfl (And.intro trivial (And.intro rfl (And.intro rfl trivial))))))))))
  · refine gdNT ?_
    refine gdNT ?_
    refine gdNT ?_
    refine gdNT ?_
    refine gdNT ?_
    refine gdNT ?_
    refine condF ?_
    have hy := someE hF
    subst hy
    refine And.intro rfl (Exists.intro [] (Exists.intro [] (Exists.intro [] (Exists.intro [] (Exists.intro [(0, some 0), (1, some 1)] (And.intro rfl (And.intro rfl (And.intro trivial (And.intro rfl (And.intro rfl trivial))))))))))
theorem C32_holds : C32.Holds Try.prog 32 := holds_of_vc tab_ok mixed (fn := Try.f32) (by kernel_rfl) rfl C32 (fun x y hF => C32_vc x.1 x.2 y hF)
theorem f32_in : ∃ fn, Try.prog.funcs[32]? = some fn ∧ fn.body.isSome = true ∧ (fn.name == "runtime.NumGoroutine") = false := ⟨Try.f32, by kernel_rfl, by kernel_rfl, by kernel_rfl⟩
end Go.Proofs
namespace Go.Proofs
open Go.AM
-- (*carousel/tape.Tape).At
def f22 (t_l : List (Int × Int × Int × Int × (List Int) × (List Int))) (n : Int) : Option (Int × Int × Int × Int × Bool × (List Int) × (List Int) × (List (Int × Int × Int × Int × (List Int) × (List Int)))) :=
  bindF (f32 t_l n) fun r1 =>
  bif (!r1.1) then
    some ((0 : Int), (0 : Int), (0 : Int), (0 : Int), false, [], [], r1.2)
  else
    guardF (0 ≤ n ∧ n < (List.length r1.2 : Int)) <|
    bindF (f16 ((((((rd (Ty.z (.p (.int .i64) (.p (.int .i64) (.p (.int .i64) (.p (.int .i64) (.p (.sl (.int .i64)) (.sl (.int .i64)))))))) r1.2 n).2).2).2).2).1, (((((rd (Ty.z (.p (.int .i64) (.p (.int .i64) (.p (.int .i64) (.p (.int .i64) (.p (.sl (.int .i64)) (.sl (.int .i64)))))))) r1.2 n).2).2).2).2).2)) fun r2 =>
    some ((rd (Ty.z (.p (.int .i64) (.p (.int .i64) (.p (.int .i64) (.p (.int .i64) (.p (.sl (.int .i64)) (.sl (.int .i64)))))))) r1.2 n).1, ((rd (Ty.z (.p (.int .i64) (.p (.int .i64) (.p (.int .i64) (.p (.int .i64) (.p (.sl (.int .i64)) (.sl (.int .i64)))))))) r1.2 n).2).1, (((rd (Ty.z (.p (.int .i64) (.p (.int .i64) (.p (.int .i64) (.p (.int .i64) (.p (.sl (.int .i64)) (.sl (.int .i64)))))))) r1.2 n).2).2).1, ((((rd (Ty.z (.p (.int .i64) (.p (.int .i64) (.p (.int .i64) (.p (.int .i64) (.p (.sl (.int .i64)) (.sl (.int .i64)))))))) r1.2 n).2).2).2).1, true, r2.1, r2.2, r1.2)
def C22 : Con where
  X := (List (Int × Int × Int × Int × (List Int) × (List Int))) × Int
  Y := Int × Int × Int × Int × Bool × (List Int) × (List Int) × (List (Int × Int × Int × Int × (List Int) × (List Int)))
  e := 2
  args x := [.raw false [(.ptr 0 0)], .dat (.int .i64) x.2]
  hin x := [(0, .cells [(.osl 1)]), (1, .arr 49 (.p (.int .i64) (.p (.int .i64) (.p (.int .i64) (.p (.int .i64) (.p (.sl (.int .i64)) (.sl (.int .i64))))))) x.1)]
  F x := f22 x.1 x.2
  ret y := [.raw true [(.d (.int .i64) y.1), (.d (.int .i64) y.2.1), (.d (.int .i64) y.2.2.1), (.d (.int .i64) y.2.2.2.1), (.osl 2), (.osl 3)], .dat .bool y.2.2.2.2.1]
  hout y := [(0, .cells [(.osl 1)]), (1, .arr 49 (.p (.int .i64) (.p (.int .i64) (.p (.int .i64) (.p (.int .i64) (.p (.sl (.int .i64)) (.sl (.int .i64))))))) y.2.2.2.2.2.2.2), (2, .arr 3 (.int .i64) y.2.2.2.2.2.1), (3, .arr 24 (.int .i64) y.2.2.2.2.2.2.1)]
  nout := 4
theorem C22_vc (t_l : List (Int × Int × Int × Int × (List Int) × (List Int))) (n : Int) (y : Int × Int × Int × Int × Bool × (List Int) × (List Int) × (List (Int × Int × Int × Int × (List Int) × (List Int)))) (hF : f22 t_l n = some y) : vc Try.prog tab Try.f22.ntmps 2 (match Try.f22.body with | some c => c | none => .skip) (retK tab C22 Try.f22.results.toList y) (C22.shIn (t_l, n)).st := by
  unfold f22 at hF
  refine Or.inl ?_
  refine Or.inl ?_
  refine Or.inl ?_
  obtain ⟨r1, hr1, hF⟩ := bindE hF
  refine Or.inl (And.intro f32_in (callV0 (callI C32 (t_l, n) r1 [(0, some 0), (1, some 1)] false C32_holds hr1 rfl rfl ?_)))
  refine (And.intro rfl (And.intro (fun h => nomatch h) (And.intro rfl (And.intro rfl (And.intro (And.intro rfl trivial) (And.intro (And.intro rfl (And.intro rfl trivial)) ?_))))))
  refine condI hF (fun hF => ?_) (fun hF => ?_)
  · refine Or.inl ?_
    refine Or.inl ?_
    have hy := someE hF
    subst hy
    refine And.intro rfl (Exists.intro [] (Exists.intro [] (Exists.intro [] (Exists.intro [] (Exists.intro [(0, some 0), (1, some 1), (2, none), (3, none)] (And.intro rfl (And.intro rfl (And.intro (And.intro rfl trivial) (And.intro rfl (And.intro rfl (And.intro rfl (And.intro rfl trivial))))))))))))
  · refine Or.inl ?_
    refine guardI hF (fun hF => ?_)
    refine Or.inl ?_
    refine Or.inl ?_
    obtain ⟨r2, hr2, hF⟩ := bindE hF
    refine Or.inl (And.intro f16_in (callV0 (callI C16 ((((((rd (Ty.z (.p (.int .i64) (.p (.int .i64) (.p (.int .i64) (.p (.int .i64) (.p (.sl (.int .i64)) (.sl (.int .i64)))))))) r1.2 n).2).2).2).2).1, (((((rd (Ty.z (.p (.int .i64) (.p (.int .i64) (.p (.int .i64) (.p (.int .i64) (.p (.sl (.int .i64)) (.sl (.int .i64)))))))) r1.2 n).2).2).2).2).2) r2 [] false C16_holds hr2 rfl rfl ?_)))
    refine (And.intro rfl (And.intro rfl (And.intro (fun h => nomatch h) (And.intro rfl (And.intro rfl (And.intro trivial (And.intro trivial ?_)))))))
    refine Or.inl ?_
    refine Or.inl ?_
    refine Or.inl ?_
    have hy := someE hF
    subst hy
    refine And.intro rfl (Exists.intro [] (Exists.intro [] (Exists.intro [] (Exists.intro [] (Exists.intro [(0, some 0), (1, some 1), (2, some 6), (3, some 7)] (And.intro rfl (And.intro rfl (And.intro (And.intro rfl trivial) (And.intro rfl (And.intro rfl (And.intro rfl (And.intro rfl trivial))))))))))))
theorem C22_holds : C22.Holds Try.prog 22 := holds_of_vc tab_ok mixed (fn := Try.f22) (by kernel_rfl) rfl C22 (fun x y hF => C22_vc x.1 x.2 y hF)
theorem f22_in : ∃ fn, Try.prog.funcs[22]? = some fn ∧ fn.body.isSome = true ∧ (fn.name == "runtime.NumGoroutine") = false := ⟨Try.f22, by kernel_rfl, by kernel_rfl, by kernel_rfl⟩
end Go.Proofs
namespace Go.Proofs
open Go.AM
-- (*carousel/tape.Tape).Value
def f12 (t_l : List (Int × Int × Int × Int × (List Int) × (List Int))) (n : Int) : Option (Bool × (List Int) × (List Int) × (List (Int × Int × Int × Int × (List Int) × (List Int)))) :=
  bindF (f22 t_l n) fun r1 =>
  some (r1.2.2.2.2.1, r1.2.2.2.2.2.1, r1.2.2.2.2.2.2.1, r1.2.2.2.2.2.2.2)
def C12 : Con where
  X := (List (Int × Int × Int × Int × (List Int) × (List Int))) × Int
  Y := Bool × (List Int) × (List Int) × (List (Int × Int × Int × Int × (List Int) × (List Int)))
  e := 2
  args x := [.raw false [(.ptr 0 0)], .dat (.int .i64) x.2]
  hin x := [(0, .cells [(.osl 1)]), (1, .arr 49 (.p (.int .i64) (.p (.int .i64) (.p (.int .i64) (.p (.int .i64) (.p (.sl (.int .i64)) (.sl (.int .i64))))))) x.1)]
  F x := f12 x.1 x.2
  ret y := [.raw true [(.osl 2), (.osl 3)], .dat .bool y.1]
  hout y := [(0, .cells [(.osl 1)]), (1, .arr 49 (.p (.int .i64) (.p (.int .i64) (.p (.int .i64) (.p (.int .i64) (.p (.sl (.int .i64)) (.sl (.int .i64))))))) y.2.2.2), (2, .arr 3 (.int .i64) y.2.1), (3, .arr 24 (.int .i64) y.2.2.1)]
  nout := 4
theorem C12_vc (t_l : List (Int × Int × Int × Int × (List Int) × (List Int))) (n : Int) (y : Bool × (List Int) × (List Int) × (List (Int × Int × Int × Int × (List Int) × (List Int)))) (hF : f12 t_l n = some y) : vc Try.prog tab Try.f12.ntmps 2 (match Try.f12.body with | some c => c | none => .skip) (retK tab C12 Try.f12.results.toList y) (C12.shIn (t_l, n)).st := by
  unfold f12 at hF
  refine Or.inl ?_
  refine Or.inl ?_
  obtain ⟨r1, hr1, hF⟩ := bindE hF
  refine Or.inl (And.intro f22_in (callV0 (callI C22 (t_l, n) r1 [(0, some 0), (1, some 1)] false C22_holds hr1 rfl rfl ?_)))
  refine (And.intro rfl (And.intro (fun h => nomatch h) (And.intro rfl (And.intro rfl (And.intro (And.intro rfl trivial) (And.intro (And.intro rfl (And.intro rfl trivial)) ?_))))))
  refine Or.inl ?_
  refine Or.inl ?_
  refine Or.inl ?_
  have hy := someE hF
  subst hy
  refine And.intro rfl (Exists.intro [] (Exists.intro [] (Exists.intro [] (Exists.intro [] (Exists.intro [(0, some 0), (1, some 1), (2, some 5), (3, some 6)] (And.intro rfl (And.intro rfl (And.intro (And.intro rfl trivial) (And.intro rfl (And.intro rfl (And.intro rfl (And.intro rfl trivial))))))))))))
theorem C12_holds : C12.Holds Try.prog 12 := holds_of_vc tab_ok mixed (fn := Try.f12) (by kernel_rfl) rfl C12 (fun x y hF => C12_vc x.1 x.2 y hF)
theorem f12_in : ∃ fn, Try.prog.funcs[12]? = some fn ∧ fn.body.isSome = true ∧ (fn.name == "runtime.NumGoroutine") = false := ⟨Try.f12, by kernel_rfl, by kernel_rfl, by kernel_rfl⟩
end Go.Proofs
namespace Go.Proofs
open Go.AM
-- carousel/loss.may
def f17_j1 (want : List Int) (r1 : Bool × (List Int) × (List Int) × (List (Int × Int × Int × Int × (List Int) × (List Int)))) : Option Bool :=
  bif (!r1.1) then
    some true
  else
    some ((List.length want : Int) != (List.length r1.2.2.1 : Int))
def f17 (t_l : List (Int × Int × Int × Int × (List Int) × (List Int))) (out : Int) (want : List Int) : Option (Int × (List (Int × Int × Int × Int × (List Int) × (List Int)))) :=
  bindF (f12 t_l out) fun r1 =>
  bindF (f17_j1 want r1) fun z2 =>
  bif z2 then
    some ((1 : Int), r1.2.2.2)
  else
    bif ((List.length r1.2.1 : Int) != (1 : Int)) then
      some ((4 : Int), r1.2.2.2)
    else
      some ((0 : Int), r1.2.2.2)
def C17 : Con where
  X := (List (Int × Int × Int × Int × (List Int) × (List Int))) × Int × (List Int)
  Y := Int × (List (Int × Int × Int × Int × (List Int) × (List Int)))
  e := 2
  args x := [.raw false [(.ptr 0 0)], .dat (.int .i64) x.2.1, .dat (.sl (.int .i64)) x.2.2]
  hin x := [(0, .cells [(.osl 1)]), (1, .arr 49 (.p (.int .i64) (.p (.int .i64) (.p (.int .i64) (.p (.int .i64) (.p (.sl (.int .i64)) (.sl (.int .i64))))))) x.1)]
  F x := f17 x.1 x.2.1 x.2.2
  ret y := [.dat (.int .i64) y.1]
  hout y := [(0, .cells [(.osl 1)]), (1, .arr 49 (.p (.int .i64) (.p (.int .i64) (.p (.int .i64) (.p (.int .i64) (.p (.sl (.int .i64)) (.sl (.int .i64))))))) y.2)]
  nout := 2
theorem C17_vc (t_l : List (Int × Int × Int × Int × (List Int) × (List Int))) (out : Int) (want : List Int) (y : Int × (List (Int × Int × Int × Int × (List Int) × (List Int)))) (hF : f17 t_l out want = some y) : vc Try.prog tab Try.f17.ntmps 2 (match Try.f17.body with | some c => c | none => .skip) (retK tab C17 Try.f17.results.toList y) (C17.shIn (t_l, out, want)).st := by
  unfold f17 at hF
  refine Or.inl ?_
  refine Or.inl ?_
  obtain ⟨r1, hr1, hF⟩ := bindE hF
  refine Or.inl (And.intro f12_in (callV0 (callI C12 (t_l, out) r1 [(0, some 0), (1, some 1)] false C12_holds hr1 rfl rfl ?_)))
  refine (And.intro rfl (And.intro (fun h => nomatch h) (And.intro rfl (And.intro rfl (And.intro (And.intro rfl trivial) (And.intro (And.intro rfl (And.intro rfl trivial)) ?_))))))
  refine Or.inl ?_
  refine Or.inl ?_
  obtain ⟨z2, hz2, hF⟩ := bindE hF
  refine Or.inr ⟨[(0, ⟨[(7, .raw false [(.ptr 2 0)]), (15, .dat .bool z2)], [(0, .cells [(.osl 1)]), (1, .arr 49 (.p (.int .i64) (.p (.int .i64) (.p (.int .i64) (.p (.int .i64) (.p (.sl (.int .i64)) (.sl (.int .i64))))))) r1.2.2.2), (2, .cells [(.osl 3), (.osl 4)]), (3, .arr 3 (.int .i64) r1.2.1), (4, .arr 24 (.int .i64) r1.2.2.1)], 5⟩)], ?_, ?_⟩
  · have hF := hz2
    clear hz2
    unfold f17_j1 at hF
    refine condN hF (fun hF => ?_) (fun hF => ?_)
    · refine gdYF ?_
      refine gdYF ?_
      refine gdYF ?_
      refine gdYF ?_
      refine gdYF ?_
      refine condF ?_
      have hz := someE hF
      subst hz
      refine Exists.intro [] (Exists.intro [] (Exists.intro [] (Exists.intro [] (Exists.intro [(0, some 0), (1, some 1), (2, some 6), (3, some 4), (4, some 5)] (And.intro rfl (And.intro rfl (And.intro (And.intro rfl trivial) (And.intro rfl (And.intro rfl (And.intro rfl (And.intro rfl (And.intro rfl trivial))))))))))))
    · refine gdNF ?_
      refine gdNF ?_
      refine gdNF ?_
      refine gdNF ?_
      refine gdNF ?_
      refine condT ?_
      have hz := someE hF
      subst hz
      refine Exists.intro [] (Exists.intro [] (Exists.intro [] (Exists.intro [] (Exists.intro [(0, some 0), (1, some 1), (2, some 6), (3, some 4), (4, some 5)] (And.intro rfl (And.intro rfl (And.intro (And.intro rfl trivial) (And.intro rfl (And.intro rfl (And.intro rfl (And.intro rfl (And.intro rfl trivial))))))))))))
  · refine And.intro ?_ trivial
    refine condI hF (fun hF => ?_) (fun hF => ?_)
    · refine Or.inl ?_
      have hy := someE hF
      subst hy
      refine And.intro rfl (Exists.intro [] (Exists.intro [] (Exists.intro [] (Exists.intro [] (Exists.intro [(0, some 0), (1, some 1)] (And.intro rfl (And.intro rfl (And.intro trivial (And.intro rfl (And.intro rfl trivial))))))))))
    · refine Or.inl ?_
      refine condI hF (fun hF => ?_) (fun hF => ?_)
      · refine Or.inl ?_
        have hy := someE hF
        subst hy
        refine And.intro rfl (Exists.intro [] (Exists.intro [] (Exists.intro [] (Exists.intro [] (Exists.intro [(0, some 0), (1, some 1)] (And.intro rfl (And.intro rfl (And.intro trivial (And.intro rfl (And.intro rfl trivial))))))))))
      · refine Or.inl ?_
        have hy := someE hF
        subst hy
        refine And.intro rfl (Exists.intro [] (Exists.intro [] (Exists.intro [] (Exists.intro [] (Exists.intro [(0, some 0), (1, some 1)] (And.intro rfl (And.intro rfl (And.intro trivial (And.intro rfl (And.intro rfl trivial))))))))))
theorem C17_holds : C17.Holds Try.prog 17 := holds_of_vc tab_ok mixed (fn := Try.f17) (by kernel_rfl) rfl C17 (fun x y hF => C17_vc x.1 x.2.1 x.2.2 y hF)
theorem f17_in : ∃ fn, Try.prog.funcs[17]? = some fn ∧ fn.body.isSome = true ∧ (fn.name == "runtime.NumGoroutine") = false := ⟨Try.f17, by kernel_rfl, by kernel_rfl, by kernel_rfl⟩
end Go.Proofs
namespace Go.Proofs
open Go.AM
-- (*carousel/tape.Tape).Len
def f29 (t_l : List (Int × Int × Int × Int × (List Int) × (List Int))) : Option (Int × (List (Int × Int × Int × Int × (List Int) × (List Int)))) :=
  some ((List.length t_l : Int), t_l)
def C29 : Con where
  X := List (Int × Int × Int × Int × (List Int) × (List Int))
  Y := Int × (List (Int × Int × Int × Int × (List Int) × (List Int)))
  e := 2
  args x := [.raw false [(.ptr 0 0)]]
  hin x := [(0, .cells [(.osl 1)]), (1, .arr 49 (.p (.int .i64) (.p (.int .i64) (.p (.int .i64) (.p (.int .i64) (.p (.sl (.int .i64)) (.sl (.int .i64))))))) x)]
  F x := f29 x
  ret y := [.dat (.int .i64) y.1]
  hout y := [(0, .cells [(.osl 1)]), (1, .arr 49 (.p (.int .i64) (.p (.int .i64) (.p (.int .i64) (.p (.int .i64) (.p (.sl (.int .i64)) (.sl (.int .i64))))))) y.2)]
  nout := 2
theorem C29_vc (t_l : List (Int × Int × Int × Int × (List Int) × (List Int))) (y : Int × (List (Int × Int × Int × Int × (List Int) × (List Int)))) (hF : f29 t_l = some y) : vc Try.prog tab Try.f29.ntmps 2 (match Try.f29.body with | some c => c | none => .skip) (retK tab C29 Try.f29.results.toList y) (C29.shIn t_l).st := by
  unfold f29 at hF
  refine Or.inl ?_
  refine Or.inl ?_
  have hy := someE hF
  subst hy
  refine And.intro rfl (Exists.intro [] (Exists.intro [] (Exists.intro [] (Exists.intro [] (Exists.intro [(0, some 0), (1, some 1)] (And.intro rfl (And.intro rfl (And.intro trivial (And.intro rfl (And.intro rfl trivial))))))))))
theorem C29_holds : C29.Holds Try.prog 29 := holds_of_vc tab_ok mixed (fn := Try.f29) (by kernel_rfl) rfl C29 (fun x y hF => C29_vc x y hF)
theorem f29_in : ∃ fn, Try.prog.funcs[29]? = some fn ∧ fn.body.isSome = true ∧ (fn.name == "runtime.NumGoroutine") = false := ⟨Try.f29, by kernel_rfl, by kernel_rfl, by kernel_rfl⟩
end Go.Proofs
namespace Go.Proofs
open Go.AM
-- carousel/loss.begin
def f18 (t_l : List (Int × Int × Int × Int × (List Int) × (List Int))) : Option (Int × (List (Int × Int × Int × Int × (List Int) × (List Int)))) :=
  bindF (f29 t_l) fun r1 =>
  some (r1.1, r1.2)
def C18 : Con where
  X := List (Int × Int × Int × Int × (List Int) × (List Int))
  Y := Int × (List (Int × Int × Int × Int × (List Int) × (List Int)))
  e := 2
  args x := [.raw false [(.ptr 0 0)]]
  hin x := [(0, .cells [(.osl 1)]), (1, .arr 49 (.p (.int .i64) (.p (.int .i64) (.p (.int .i64) (.p (.int .i64) (.p (.sl (.int .i64)) (.sl (.int .i64))))))) x)]
  F x := f18 x
  ret y := [.raw false [(.ptr 2 0)]]
  hout y := [(0, .cells [(.osl 1)]), (1, .arr 49 (.p (.int .i64) (.p (.int .i64) (.p (.int .i64) (.p (.int .i64) (.p (.sl (.int .i64)) (.sl (.int .i64))))))) y.2), (2, .cells [(.ptr 0 0), (.d (.int .i64) y.1), (.d (.int .i64) (0 : Int))])]
  nout := 3
theorem C18_vc (t_l : List (Int × Int × Int × Int × (List Int) × (List Int))) (y : Int × (List (Int × Int × Int × Int × (List Int) × (List Int)))) (hF : f18 t_l = some y) : vc Try.prog tab Try.f18.ntmps 2 (match Try.f18.body with | some c => c | none => .skip) (retK tab C18 Try.f18.results.toList y) (C18.shIn t_l).st := by
  unfold f18 at hF
  refine Or.inl ?_
  refine Or.inl ?_
  obtain ⟨r1, hr1, hF⟩ := bindE hF
  refine Or.inl (And.intro f29_in (callV0 (callI C29 t_l r1 [(0, some 0), (1, some 1)] false C29_holds hr1 rfl rfl ?_)))
  refine (And.intro (fun h => nomatch h) (And.intro rfl (And.intro rfl (And.intro (And.intro rfl trivial) (And.intro (And.intro rfl (And.intro rfl trivial)) ?_)))))
  have hy := someE hF
  subst hy
  refine And.intro rfl (Exists.intro [] (Exists.intro [] (Exists.intro [] (Exists.intro [] (Exists.intro [(0, some 0), (1, some 1), (2, some 4)] (And.intro rfl (And.intro (And.intro rfl trivial) (And.intro rfl (And.intro rfl (And.intro rfl trivial))))))))))
theorem C18_holds : C18.Holds Try.prog 18 := holds_of_vc tab_ok mixed (fn := Try.f18) (by kernel_rfl) rfl C18 (fun x y hF => C18_vc x y hF)
theorem f18_in : ∃ fn, Try.prog.funcs[18]? = some fn ∧ fn.body.isSome = true ∧ (fn.name == "runtime.NumGoroutine") = false := ⟨Try.f18, by kernel_rfl, by kernel_rfl, by kernel_rfl⟩
end Go.Proofs
namespace Go.Proofs
open Go.AM
-- (*carousel/loss.steps).leaf
def f20 (s_t_l : List (Int × Int × Int × Int × (List Int) × (List Int))) (s_was : Int) (s_e : Int) (v : List Int) : Option (Int × Int × Int × (List (Int × Int × Int × Int × (List Int) × (List Int)))) :=
  bif (s_e != (0 : Int)) then
    some ((0 : Int), s_was, s_e, s_t_l)
  else
    bindF (f8 s_t_l ([(List.length v : Int)], v)) fun r1 =>
    some (r1.1, s_was, r1.2.1, r1.2.2)
def C20 : Con where
  X := (List (Int × Int × Int × Int × (List Int) × (List Int))) × Int × Int × (List Int)
  Y := Int × Int × Int × (List (Int × Int × Int × Int × (List Int) × (List Int)))
  e := 3
  args x := [.raw false [(.ptr 0 0)], .dat (.sl (.int .i64)) x.2.2.2]
  hin x := [(0, .cells [(.ptr 1 0), (.d (.int .i64) x.2.1), (.d (.int .i64) x.2.2.1)]), (1, .cells [(.osl 2)]), (2, .arr 49 (.p (.int .i64) (.p (.int .i64) (.p (.int .i64) (.p (.int .i64) (.p (.sl (.int .i64)) (.sl (.int .i64))))))) x.1)]
  F x := f20 x.1 x.2.1 x.2.2.1 x.2.2.2
  ret y := [.dat (.int .i64) y.1]
  hout y := [(0, .cells [(.ptr 1 0), (.d (.int .i64) y.2.1), (.d (.int .i64) y.2.2.1)]), (1, .cells [(.osl 3)]), (3, .arr 49 (.p (.int .i64) (.p (.int .i64) (.p (.int .i64) (.p (.int .i64) (.p (.sl (.int .i64)) (.sl (.int .i64))))))) y.2.2.2)]
  nout := 4
theorem C20_vc (s_t_l : List (Int × Int × Int × Int × (List Int) × (List Int))) (s_was : Int) (s_e : Int) (v : List Int) (y : Int × Int × Int × (List (Int × Int × Int × Int × (List Int) × (List Int)))) (hF : f20 s_t_l s_was s_e v = some y) : vc Try.prog tab Try.f20.ntmps 3 (match Try.f20.body with | some c => c | none => .skip) (retK tab C20 Try.f20.results.toList y) (C20.shIn (s_t_l, s_was, s_e, v)).st := by
  unfold f20 at hF
  refine Or.inl ?_
  refine Or.inl ?_
  refine Or.inl ?_
  refine condI hF (fun hF => ?_) (fun hF => ?_)
  · refine Or.inl ?_
    have hy := someE hF
    subst hy
    refine And.intro rfl (Exists.intro [] (Exists.intro [] (Exists.intro [] (Exists.intro [] (Exists.intro [(0, some 0), (1, some 1), (3, some 2)] (And.intro rfl (And.intro rfl (And.intro trivial (And.intro rfl (And.intro rfl (And.intro rfl trivial)))))))))))
  · refine Or.inl ?_
    refine Or.inl ?_
    obtain ⟨r1, hr1, hF⟩ := bindE hF
    refine Or.inl (And.intro f8_in (callV0 (callI C8 (s_t_l, ([(List.length v : Int)], v)) r1 [(0, some 1), (1, some 2)] false C8_holds hr1 rfl rfl ?_)))
    refine (And.intro rfl (And.intro rfl (And.intro (fun h => nomatch h) (And.intro rfl (And.intro rfl (And.intro (And.intro rfl trivial) (And.intro (And.intro rfl (And.intro rfl trivial)) ?_)))))))
    refine Or.inl ?_
    refine Or.inl ?_
    refine Or.inl ?_
    have hy := someE hF
    subst hy
    refine And.intro rfl (Exists.intro [] (Exists.intro [] (Exists.intro [] (Exists.intro [] (Exists.intro [(0, some 0), (1, some 1), (3, some 6)] (And.intro rfl (And.intro rfl (And.intro trivial (And.intro rfl (And.intro rfl (And.intro rfl trivial)))))))))))
theorem C20_holds : C20.Holds Try.prog 20 := holds_of_vc tab_ok mixed (fn := Try.f20) (by kernel_rfl) rfl C20 (fun x y hF => C20_vc x.1 x.2.1 x.2.2.1 x.2.2.2 y hF)
theorem f20_in : ∃ fn, Try.prog.funcs[20]? = some fn ∧ fn.body.isSome = true ∧ (fn.name == "runtime.NumGoroutine") = false := ⟨Try.f20, by kernel_rfl, by kernel_rfl, by kernel_rfl⟩
end Go.Proofs
namespace Go.Proofs
open Go.AM
-- carousel/tape.two
def f35 (op : Int) : Option Bool :=
  bif (op == (2 : Int)) then
    some true
  else
    bif (op == (3 : Int)) then
      some true
    else
      bif (op == (4 : Int)) then
        some true
      else
        bif (op == (6 : Int)) then
          some true
        else
          some (op == (12 : Int))
def C35 : Con where
  X := Int
  Y := Bool
  e := 0
  args x := [.dat (.int .i64) x]
  hin x := []
  F x := f35 x
  ret y := [.dat .bool y]
  hout y := []
  nout := 0
theorem C35_vc (op : Int) (y : Bool) (hF : f35 op = some y) : vc Try.prog tab Try.f35.ntmps 0 (match Try.f35.body with | some c => c | none => .skip) (retK tab C35 Try.f35.results.toList y) (C35.shIn op).st := by
  unfold f35 at hF
  refine Or.inl ?_
  refine Or.inl ?_
  refine condN hF (fun hF => ?_) (fun hF => ?_)
  · refine gdYF ?_
    refine condF ?_
    refine condN hF (fun hF => ?_) (fun hF => ?_)
    · refine gdYF ?_
      refine condF ?_
      refine condN hF (fun hF => ?_) (fun hF => ?_)
      · refine gdYF ?_
        refine condF ?_
        refine condN hF (fun hF => ?_) (fun hF => ?_)
        · refine gdYF ?_
          refine condF ?_
          have hy := someE hF
          subst hy
          refine And.intro rfl (Exists.intro [] (Exists.intro [] (Exists.intro [] (Exists.intro [] (Exists.intro [] (And.intro rfl (And.intro rfl (And.intro trivial trivial))))))))
        · refine gdNF ?_
          refine condT ?_
          have hy := someE hF
          subst hy
          refine And.intro rfl (Exists.intro [] (Exists.intro [] (Exists.intro [] (Exists.intro [] (Exists.intro [] (And.intro rfl (And.intro rfl (And.intro trivial trivial))))))))
      · refine gdNF ?_
        refine condT ?_
        refine gdNF ?_
        refine gdNF ?_
        refine condT ?_
        have hy := someE hF
        subst hy
        refine And.intro rfl (Exists.intro [] (Exists.intro [] (Exists.intro [] (Exists.intro [] (Exists.intro [] (And.intro rfl (And.intro rfl (And.intro trivial trivial))))))))
    · refine gdNF ?_
      refine condT ?_
      refine gdNF ?_
      refine gdNF ?_
      refine condT ?_
      refine gdNF ?_
      refine gdNF ?_
      refine condT ?_
      have hy := someE hF
      subst hy
      refine And.intro rfl (Exists.intro [] (Exists.intro [] (Exists.intro [] (Exists.intro [] (Exists.intro [] (And.intro rfl (And.intro rfl (And.intro trivial trivial))))))))
  · refine gdNF ?_
    refine condT ?_
    refine gdNF ?_
    refine gdNF ?_
    refine condT ?_
    refine gdNF ?_
    refine gdNF ?_
    refine condT ?_
    refine gdNF ?_
    refine gdNF ?_
    refine condT ?_
    have hy := someE hF
    subst hy
    refine And.intro rfl (Exists.intro [] (Exists.intro [] (Exists.intro [] (Exists.intro [] (Exists.intro [] (And.intro rfl (And.intro rfl (And.intro trivial trivial))))))))
theorem C35_holds : C35.Holds Try.prog 35 := holds_of_vc tab_ok mixed (fn := Try.f35) (by kernel_rfl) rfl C35 (fun x y hF => C35_vc x y hF)
theorem f35_in : ∃ fn, Try.prog.funcs[35]? = some fn ∧ fn.body.isSome = true ∧ (fn.name == "runtime.NumGoroutine") = false := ⟨Try.f35, by kernel_rfl, by kernel_rfl, by kernel_rfl⟩
end Go.Proofs
namespace Go.Proofs
open Go.AM
-- carousel/tape.counts
def f36 (op : Int) : Option Bool :=
  bif (op == (5 : Int)) then
    some true
  else
    bif (op == (8 : Int)) then
      some true
    else
      bif (op == (11 : Int)) then
        some true
      else
        bif (op == (12 : Int)) then
          some true
        else
          some (op == (13 : Int))
def C36 : Con where
  X := Int
  Y := Bool
  e := 0
  args x := [.dat (.int .i64) x]
  hin x := []
  F x := f36 x
  ret y := [.dat .bool y]
  hout y := []
  nout := 0
theorem C36_vc (op : Int) (y : Bool) (hF : f36 op = some y) : vc Try.prog tab Try.f36.ntmps 0 (match Try.f36.body with | some c => c | none => .skip) (retK tab C36 Try.f36.results.toList y) (C36.shIn op).st := by
  unfold f36 at hF
  refine Or.inl ?_
  refine Or.inl ?_
  refine condN hF (fun hF => ?_) (fun hF => ?_)
  · refine gdYF ?_
    refine condF ?_
    refine condN hF (fun hF => ?_) (fun hF => ?_)
    · refine gdYF ?_
      refine condF ?_
      refine condN hF (fun hF => ?_) (fun hF => ?_)
      · refine gdYF ?_
        refine condF ?_
        refine condN hF (fun hF => ?_) (fun hF => ?_)
        · refine gdYF ?_
          refine condF ?_
          have hy := someE hF
          subst hy
          refine And.intro rfl (Exists.intro [] (Exists.intro [] (Exists.intro [] (Exists.intro [] (Exists.intro [] (And.intro rfl (And.intro rfl (And.intro trivial trivial))))))))
        · refine gdNF ?_
          refine condT ?_
          have hy := someE hF
          subst hy
          refine And.intro rfl (Exists.intro [] (Exists.intro [] (Exists.intro [] (Exists.intro [] (Exists.intro [] (And.intro rfl (And.intro rfl (And.intro trivial trivial))))))))
      · refine gdNF ?_
        refine condT ?_
        refine gdNF ?_
        refine gdNF ?_
        refine condT ?_
        have hy := someE hF
        subst hy
        refine And.intro rfl (Exists.intro [] (Exists.intro [] (Exists.intro [] (Exists.intro [] (Exists.intro [] (And.intro rfl (And.intro rfl (And.intro trivial trivial))))))))
    · refine gdNF ?_
      refine condT ?_
      refine gdNF ?_
      refine gdNF ?_
      refine condT ?_
      refine gdNF ?_
      refine gdNF ?_
      refine condT ?_
      have hy := someE hF
      subst hy
      refine And.intro rfl (Exists.intro [] (Exists.intro [] (Exists.intro [] (Exists.intro [] (Exists.intro [] (And.intro rfl (And.intro rfl (And.intro trivial trivial))))))))
  · refine gdNF ?_
    refine condT ?_
    refine gdNF ?_
    refine gdNF ?_
    refine condT ?_
    refine gdNF ?_
    refine gdNF ?_
    refine condT ?_
    refine gdNF ?_
    refine gdNF ?_
    refine condT ?_
    have hy := someE hF
    subst hy
    refine And.intro rfl (Exists.intro [] (Exists.intro [] (Exists.intro [] (Exists.intro [] (Exists.intro [] (And.intro rfl (And.intro rfl (And.intro trivial trivial))))))))
theorem C36_holds : C36.Holds Try.prog 36 := holds_of_vc tab_ok mixed (fn := Try.f36) (by kernel_rfl) rfl C36 (fun x y hF => C36_vc x y hF)
theorem f36_in : ∃ fn, Try.prog.funcs[36]? = some fn ∧ fn.body.isSome = true ∧ (fn.name == "runtime.NumGoroutine") = false := ⟨Try.f36, by kernel_rfl, by kernel_rfl, by kernel_rfl⟩
end Go.Proofs
namespace Go.Proofs
open Go.AM
-- carousel/shape.side
def f94 (d : List Int) (i : Int) : Option Int :=
  bif (decide (i ≥ (List.length d : Int))) then
    some (1 : Int)
  else
    guardF (0 ≤ (IntKind.i64.wrap ((IntKind.i64.wrap ((List.length d : Int) - (1 : Int))) - i)) ∧ (IntKind.i64.wrap ((IntKind.i64.wrap ((List.length d : Int) - (1 : Int))) - i)) < (List.length d : Int)) <|
    some (rd (0 : Int) d (IntKind.i64.wrap ((IntKind.i64.wrap ((List.length d : Int) - (1 : Int))) - i)))
def C94 : Con where
  X := (List Int) × Int
  Y := Int
  e := 0
  args x := [.dat (.sl (.int .i64)) x.1, .dat (.int .i64) x.2]
  hin x := []
  F x := f94 x.1 x.2
  ret y := [.dat (.int .i64) y]
  hout y := []
  nout := 0
theorem C94_vc (d : List Int) (i : Int) (y : Int) (hF : f94 d i = some y) : vc Try.prog tab Try.f94.ntmps 0 (match Try.f94.body with | some c => c | none => .skip) (retK tab C94 Try.f94.results.toList y) (C94.shIn (d, i)).st := by
  unfold f94 at hF
  refine Or.inl ?_
  refine Or.inl ?_
  refine Or.inl ?_
  refine condI hF (fun hF => ?_) (fun hF => ?_)
  · refine Or.inl ?_
    have hy := someE hF
    subst hy
    refine And.intro rfl (Exists.intro [] (Exists.intro [] (Exists.intro [] (Exists.intro [] (Exists.intro [] (And.intro rfl (And.intro rfl (And.intro trivial trivial))))))))
  · refine Or.inl ?_
    refine guardI hF (fun hF => ?_)
    have hy := someE hF
    subst hy
    refine And.intro rfl (Exists.intro [] (Exists.intro [] (Exists.intro [] (Exists.intro [] (Exists.intro [] (And.intro rfl (And.intro rfl (And.intro trivial trivial))))))))
theorem C94_holds : C94.Holds Try.prog 94 := holds_of_vc tab_ok mixed (fn := Try.f94) (by kernel_rfl) rfl C94 (fun x y hF => C94_vc x.1 x.2 y hF)
theorem f94_in : ∃ fn, Try.prog.funcs[94]? = some fn ∧ fn.body.isSome = true ∧ (fn.name == "runtime.NumGoroutine") = false := ⟨Try.f94, by kernel_rfl, by kernel_rfl, by kernel_rfl⟩
end Go.Proofs
namespace Go.Proofs
open Go.AM
-- carousel/shape.Join
def f75_j1 (a : List Int) (b : List Int) : Option (Sum Unit Unit) :=
  bindF (f25 a) fun r4 =>
  bif (!r4) then
    some (Sum.inr ())
  else
    bindF (f25 b) fun r5 =>
    bif (!r5) then
      some (Sum.inr ())
    else
      some (Sum.inl ())
def f75_j5 (r13 : Int) (r14 : Int) : Option (Sum Unit Unit) :=
  bif (r13 != r14) then
    bif (r13 != (1 : Int)) then
      bif (r14 != (1 : Int)) then
        some (Sum.inr ())
      else
        some (Sum.inl ())
    else
      some (Sum.inl ())
  else
    some (Sum.inl ())
def f75_l4 (a : List Int) (b : List Int) (go : (Int × (List Int)) → Option (Sum Unit (List Int))) (v26 : Int) (l0 : List Int) : Option (Sum Unit (List Int)) :=
  bif (decide (v26 < (List.length (List.replicate (Int.toNat (if (List.length b : Int) > (List.length a : Int) then (List.length b : Int) else (List.length a : Int))) (0 : Int)) : Int))) then
    bindF (f94 a v26) fun r13 =>
    bindF (f94 b v26) fun r14 =>
    bindF (f75_j5 r13 r14) fun z15 =>
    sumF z15 (fun z15a =>
      guardF (0 ≤ (IntKind.i64.wrap ((IntKind.i64.wrap ((List.length l0 : Int) - (1 : Int))) - v26)) ∧ (IntKind.i64.wrap ((IntKind.i64.wrap ((List.length l0 : Int) - (1 : Int))) - v26)) < (List.length l0 : Int)) <|
      go ((IntKind.i64.wrap (v26 + (1 : Int))), (List.set l0 (Int.toNat (IntKind.i64.wrap ((IntKind.i64.wrap ((List.length l0 : Int) - (1 : Int))) - v26))) (if r14 > r13 then r14 else r13)))) (fun z15b =>
      some (Sum.inl ()))
  else
    some (Sum.inr l0)
def f75 (a : List Int) (b : List Int) : Option (Int × (List Int)) :=
  bindF (f75_j1 a b) fun z3 =>
  sumF z3 (fun z3a =>
    guardF (0 ≤ (if (List.length b : Int) > (List.length a : Int) then (List.length b : Int) else (List.length a : Int)) ∧ (if (List.length b : Int) > (List.length a : Int) then (List.length b : Int) else (List.length a : Int)) ≤ (if (List.length b : Int) > (List.length a : Int) then (List.length b : Int) else (List.length a : Int)) ∧ Int.toNat (if (List.length b : Int) > (List.length a : Int) then (List.length b : Int) else (List.length a : Int)) * 8 ≤ 140737488355328) <|
    bindF (loopF (fun go x => f75_l4 a b go x.1 x.2) fuelN ((0 : Int), (List.replicate (Int.toNat (if (List.length b : Int) > (List.length a : Int) then (List.length b : Int) else (List.length a : Int))) (0 : Int)))) fun z12 =>
    sumF z12 (fun z12a =>
      some ((4 : Int), [])) (fun z12b =>
      bindF (f25 z12b) fun r16 =>
      bif (!r16) then
        some ((2 : Int), [])
      else
        some ((0 : Int), z12b))) (fun z3b =>
    some ((1 : Int), []))
def C75 : Con where
  X := (List Int) × (List Int)
  Y := Int × (List Int)
  e := 0
  args x := [.dat (.sl (.int .i64)) x.1, .dat (.sl (.int .i64)) x.2]
  hin x := []
  F x := f75 x.1 x.2
  ret y := [.raw false [(.osl 0)], .dat (.int .i64) y.1]
  hout y := [(0, .arr 3 (.int .i64) y.2)]
  nout := 1
theorem C75_vc (a : List Int) (b : List Int) (y : Int × (List Int)) (hF : f75 a b = some y) : vc Try.prog tab Try.f75.ntmps 0 (match Try.f75.body with | some c => c | none => .skip) (retK tab C75 Try.f75.results.toList y) (C75.shIn (a, b)).st := by
  unfold f75 at hF
  refine Or.inl ?_
  obtain ⟨z3, hz3, hF⟩ := bindE hF
  refine Or.inr ⟨Sum.elim (fun z3a => [(0, ⟨[(0, .dat (.sl (.int .i64)) a), (1, .dat (.sl (.int .i64)) b)], [], 0⟩)]) (fun z3b => [(1, ⟨[(4, .raw false [(.c (.slice none 0 0))]), (5, .dat (.int .i64) (1 : Int))], [], 0⟩)]) z3, ?_, ?_⟩
  · have hF := hz3
    clear hz3
    unfold f75_j1 at hF
    refine Or.inl ?_
    obtain ⟨r4, hr4, hF⟩ := bindE hF
    refine Or.inl (And.intro f25_in (callV0 (callI C25 a r4 [] false C25_holds hr4 rfl rfl ?_)))
    refine (And.intro rfl (And.intro (fun h => nomatch h) (And.intro rfl (And.intro rfl (And.intro trivial (And.intro trivial ?_))))))
    refine condN hF (fun hF => ?_) (fun hF => ?_)
    · refine gdYF ?_
      obtain ⟨r5, hr5, hF⟩ := bindE hF
      refine Or.inl (And.intro f25_in (callV0 (callI C25 b r5 [] false C25_holds hr5 rfl rfl ?_)))
      refine (And.intro rfl (And.intro (fun h => nomatch h) (And.intro rfl (And.intro rfl (And.intro trivial (And.intro trivial ?_))))))
      refine gdYF ?_
      refine condF ?_
      refine condI hF (fun hF => ?_) (fun hF => ?_)
      · refine Or.inl ?_
        have hz := someE hF
        subst hz
        refine Exists.intro [] (Exists.intro [] (Exists.intro [] (Exists.intro [] (Exists.intro [] (And.intro rfl (And.intro rfl (And.intro (And.intro rfl trivial) trivial)))))))
      · have hz := someE hF
        subst hz
        refine Exists.intro [] (Exists.intro [] (Exists.intro [] (Exists.intro [] (Exists.intro [] (And.intro rfl (And.intro rfl (And.intro rfl (And.intro trivial trivial))))))))
    · refine gdNF ?_
      refine gdNF ?_
      refine condT ?_
      refine condT ?_
      refine Or.inl ?_
      have hz := someE hF
      subst hz
      refine Exists.intro [] (Exists.intro [] (Exists.intro [] (Exists.intro [] (Exists.intro [] (And.intro rfl (And.intro rfl (And.intro (And.intro rfl trivial) trivial)))))))
  · rcases z3 with z3a | z3b
    · dsimp only [sumF] at hF
      refine And.intro ?_ trivial
      refine Or.inl ?_
      refine guardI hF (fun hF => ?_)
      refine Or.inl ?_
      refine Or.inl ?_
      obtain ⟨z12, hz12, hF⟩ := bindE hF
      refine loopI (Int × (List Int)) (Sum Unit (List Int)) (fun x => ⟨[(0, .dat (.sl (.int .i64)) a), (1, .dat (.sl (.int .i64)) b), (6, .raw false [(.osl 0)]), (25, .dat (.int .i64) (List.length (List.replicate (Int.toNat (if (List.length b : Int) > (List.length a : Int) then (List.length b : Int) else (List.length a : Int))) (0 : Int)) : Int)), (26, .dat (.int .i64) x.1)], [(0, .arr 3 (.int .i64) x.2)], 1⟩) (fun z => Sum.elim (fun za => [(1, ⟨[(4, .raw false [(.c (.slice none 0 0))]), (5, .dat (.int .i64) (4 : Int))], [], 0⟩)]) (fun zb => [(2, ⟨[(6, .raw false [(.osl 0)])], [(0, .arr 3 (.int .i64) zb)], 1⟩)]) z) (loopF (fun go x => f75_l4 a b go x.1 x.2)) fuelN ((0 : Int), (List.replicate (Int.toNat (if (List.length b : Int) > (List.length a : Int) then (List.length b : Int) else (List.length a : Int))) (0 : Int))) z12 (And.intro hz12 (And.intro (Exists.intro [] (Exists.intro [] (Exists.intro [] (Exists.intro [] (Exists.intro [(0, some 0)] (And.intro rfl (And.intro rfl (And.intro rfl (And.intro rfl (And.intro rfl (And.intro (And.intro rfl trivial) (And.intro rfl trivial)))))))))))) (And.intro (fun _ _ h => loopZ h) (And.intro (fun m => curI (fun v26 => fun l0 z hF => ?_)) ?_))))
      · have hF : f75_l4 a b (loopF (fun go x => f75_l4 a b go x.1 x.2) m) v26 l0 = some z := hF
        unfold f75_l4 at hF
        refine Or.inl ?_
        refine Or.inl ?_
        refine condI hF (fun hF => ?_) (fun hF => ?_)
        · refine Or.inl ?_
          refine Or.inl ?_
          refine Or.inl ?_
          obtain ⟨r13, hr13, hF⟩ := bindE hF
          refine Or.inl (And.intro f94_in (callV0 (callI C94 (a, v26) r13 [] false C94_holds hr13 rfl rfl ?_)))
          refine (And.intro rfl (And.intro rfl (And.intro (fun h => nomatch h) (And.intro rfl (And.intro rfl (And.intro trivial (And.intro trivial ?_)))))))
          obtain ⟨r14, hr14, hF⟩ := bindE hF
          refine Or.inl (And.intro f94_in (callV0 (callI C94 (b, v26) r14 [] false C94_holds hr14 rfl rfl ?_)))
          refine (And.intro rfl (And.intro rfl (And.intro (fun h => nomatch h) (And.intro rfl (And.intro rfl (And.intro trivial (And.intro trivial ?_)))))))
          obtain ⟨z15, hz15, hF⟩ := bindE hF
          refine Or.inr ⟨Sum.elim (fun z15a => [(0, ⟨[(0, .dat (.sl (.int .i64)) a), (1, .dat (.sl (.int .i64)) b), (6, .raw false [(.osl 0)]), (7, .dat (.int .i64) v26), (8, .dat (.int .i64) r13), (9, .dat (.int .i64) r14), (25, .dat (.int .i64) (List.length (List.replicate (Int.toNat (if (List.length b : Int) > (List.length a : Int) then (List.length b : Int) else (List.length a : Int))) (0 : Int)) : Int)), (26, .dat (.int .i64) v26)], [(0, .arr 3 (.int .i64) l0)], 1⟩)]) (fun z15b => [(1, ⟨[(4, .raw false [(.c (.slice none 0 0))]), (5, .dat (.int .i64) (4 : Int))], [], 0⟩)]) z15, ?_, ?_⟩
          · have hF := hz15
            clear hz15
            unfold f75_j5 at hF
            refine Or.inl ?_
            refine condI hF (fun hF => ?_) (fun hF => ?_)
            · refine gdYT ?_
              refine condT ?_
              refine condI hF (fun hF => ?_) (fun hF => ?_)
              · refine gdYT ?_
                refine condT ?_
                refine condI hF (fun hF => ?_) (fun hF => ?_)
                · refine Or.inl ?_
                  have hz := someE hF
                  subst hz
                  refine Exists.intro [] (Exists.intro [] (Exists.intro [] (Exists.intro [] (Exists.intro [] (And.intro rfl (And.intro rfl (And.intro (And.intro rfl trivial) trivial)))))))
                · have hz := someE hF
                  subst hz
                  refine Exists.intro [] (Exists.intro [] (Exists.intro [] (Exists.intro [] (Exists.intro [(0, some 0)] (And.intro rfl (And.intro rfl (And.intro rfl (And.intro rfl (And.intro rfl (And.intro rfl (And.intro rfl (And.intro rfl (And.intro (And.intro rfl trivial) (And.intro rfl trivial))))))))))))))
              · refine gdNT ?_
                refine condF ?_
                refine condF ?_
                have hz := someE hF
                subst hz
                refine Exists.intro [] (Exists.intro [] (Exists.intro [] (Exists.intro [] (Exists.intro [(0, some 0)] (And.intro rfl (And.intro rfl (And.intro rfl (And.intro rfl (And.intro rfl (And.intro rfl (And.intro rfl (And.intro rfl (And.intro (And.intro rfl trivial) (And.intro rfl trivial))))))))))))))
            · refine gdNT ?_
              refine condF ?_
              refine gdNT ?_
              refine gdNT ?_
              refine condF ?_
              refine condF ?_
              have hz := someE hF
              subst hz
              refine Exists.intro [] (Exists.intro [] (Exists.intro [] (Exists.intro [] (Exists.intro [(0, some 0)] (And.intro rfl (And.intro rfl (And.intro rfl (And.intro rfl (And.intro rfl (And.intro rfl (And.intro rfl (And.intro rfl (And.intro (And.intro rfl trivial) (And.intro rfl trivial))))))))))))))
          · rcases z15 with z15a | z15b
            · dsimp only [sumF] at hF
              refine And.intro ?_ trivial
              refine guardI hF (fun hF => ?_)
              refine Or.inl ?_
              refine Exists.intro ((IntKind.i64.wrap (v26 + (1 : Int))), (List.set l0 (Int.toNat (IntKind.i64.wrap ((IntKind.i64.wrap ((List.length l0 : Int) - (1 : Int))) - v26))) (if r14 > r13 then r14 else r13))) (And.intro hF (Exists.intro [] (Exists.intro [] (Exists.intro [] (Exists.intro [] (Exists.intro [(0, some 0)] (And.intro rfl (And.intro rfl (And.intro rfl (And.intro rfl (And.intro rfl (And.intro (And.intro rfl trivial) (And.intro rfl trivial)))))))))))))
            · dsimp only [sumF] at hF
              refine And.intro ?_ trivial
              have hz := someE hF
              subst hz
              refine Exists.intro [] (Exists.intro [] (Exists.intro [] (Exists.intro [] (Exists.intro [] (And.intro rfl (And.intro rfl (And.intro (And.intro rfl trivial) trivial)))))))
        · have hz := someE hF
          subst hz
          refine Exists.intro [] (Exists.intro [] (Exists.intro [] (Exists.intro [] (Exists.intro [(0, some 0)] (And.intro rfl (And.intro (And.intro rfl trivial) (And.intro rfl trivial)))))))
      · rcases z12 with z12a | z12b
        · dsimp only [sumF] at hF
          refine And.intro ?_ trivial
          have hy := someE hF
          subst hy
          refine And.intro rfl (Exists.intro [] (Exists.intro [] (Exists.intro [] (Exists.intro [] (Exists.intro [(0, none)] (And.intro rfl (And.intro rfl (And.intro (And.intro rfl trivial) (And.intro rfl trivial)))))))))
        · dsimp only [sumF] at hF
          refine And.intro ?_ trivial
          refine Or.inl ?_
          refine Or.inl ?_
          obtain ⟨r16, hr16, hF⟩ := bindE hF
          refine Or.inl (And.intro f25_in (callV0 (callI C25 z12b r16 [] true C25_holds hr16 rfl rfl ?_)))
          refine (And.intro rfl (And.intro (fun _ => rfl) (And.intro rfl (And.intro rfl (And.intro trivial (And.intro trivial ?_))))))
          refine condI hF (fun hF => ?_) (fun hF => ?_)
          · refine Or.inl ?_
            have hy := someE hF
            subst hy
            refine And.intro rfl (Exists.intro [] (Exists.intro [] (Exists.intro [] (Exists.intro [] (Exists.intro [(0, none)] (And.intro rfl (And.intro rfl (And.intro (And.intro rfl trivial) (And.intro rfl trivial)))))))))
          · refine Or.inl ?_
            have hy := someE hF
            subst hy
            refine And.intro rfl (Exists.intro [] (Exists.intro [] (Exists.intro [] (Exists.intro [] (Exists.intro [(0, some 0)] (And.intro rfl (And.intro rfl (And.intro (And.intro rfl trivial) (And.intro rfl trivial)))))))))
    · dsimp only [sumF] at hF
      refine And.intro ?_ trivial
      have hy := someE hF
      subst hy
      refine And.intro rfl (Exists.intro [] (Exists.intro [] (Exists.intro [] (Exists.intro [] (Exists.intro [(0, none)] (And.intro rfl (And.intro rfl (And.intro (And.intro rfl trivial) (And.intro rfl trivial)))))))))
theorem C75_holds : C75.Holds Try.prog 75 := holds_of_vc tab_ok mixed (fn := Try.f75) (by kernel_rfl) rfl C75 (fun x y hF => C75_vc x.1 x.2 y hF)
theorem f75_in : ∃ fn, Try.prog.funcs[75]? = some fn ∧ fn.body.isSome = true ∧ (fn.name == "runtime.NumGoroutine") = false := ⟨Try.f75, by kernel_rfl, by kernel_rfl, by kernel_rfl⟩
end Go.Proofs
namespace Go.Proofs
open Go.AM
-- math/bits.Mul64
def f40 (x_ : Int) (y_ : Int) : Option (Int × Int) :=
  some ((IntKind.u64.wrap ((IntKind.u64.wrap ((IntKind.u64.wrap ((Int.fdiv x_ (2 ^ min (Int.toNat (32 : Int)) (IntKind.bits IntKind.u64))) * (Int.fdiv y_ (2 ^ min (Int.toNat (32 : Int)) (IntKind.bits IntKind.u64))))) + (Int.fdiv (IntKind.u64.wrap ((IntKind.u64.wrap ((Int.fdiv x_ (2 ^ min (Int.toNat (32 : Int)) (IntKind.bits IntKind.u64))) * (bitsOf IntKind.u64 (fun p q => p &&& q) y_ (4294967295 : Int)))) + (Int.fdiv (IntKind.u64.wrap ((bitsOf IntKind.u64 (fun p q => p &&& q) x_ (4294967295 : Int)) * (bitsOf IntKind.u64 (fun p q => p &&& q) y_ (4294967295 : Int)))) (2 ^ min (Int.toNat (32 : Int)) (IntKind.bits IntKind.u64))))) (2 ^ min (Int.toNat (32 : Int)) (IntKind.bits IntKind.u64))))) + (Int.fdiv (IntKind.u64.wrap ((bitsOf IntKind.u64 (fun p q => p &&& q) (IntKind.u64.wrap ((IntKind.u64.wrap ((Int.fdiv x_ (2 ^ min (Int.toNat (32 : Int)) (IntKind.bits IntKind.u64))) * (bitsOf IntKind.u64 (fun p q => p &&& q) y_ (4294967295 : Int)))) + (Int.fdiv (IntKind.u64.wrap ((bitsOf IntKind.u64 (fun p q => p &&& q) x_ (4294967295 : Int)) * (bitsOf IntKind.u64 (fun p q => p &&& q) y_ (4294967295 : Int)))) (2 ^ min (Int.toNat (32 : Int)) (IntKind.bits IntKind.u64))))) (4294967295 : Int)) + (IntKind.u64.wrap ((bitsOf IntKind.u64 (fun p q => p &&& q) x_ (4294967295 : Int)) * (Int.fdiv y_ (2 ^ min (Int.toNat (32 : Int)) (IntKind.bits IntKind.u64))))))) (2 ^ min (Int.toNat (32 : Int)) (IntKind.bits IntKind.u64))))), (IntKind.u64.wrap (x_ * y_)))
def C40 : Con where
  X := Int × Int
  Y := Int × Int
  e := 0
  args x := [.dat (.int .u64) x.1, .dat (.int .u64) x.2]
  hin x := []
  F x := f40 x.1 x.2
  ret y := [.dat (.int .u64) y.1, .dat (.int .u64) y.2]
  hout y := []
  nout := 0
theorem C40_vc (x_ : Int) (y_ : Int) (y : Int × Int) (hF : f40 x_ y_ = some y) : vc Try.prog tab Try.f40.ntmps 0 (match Try.f40.body with | some c => c | none => .skip) (retK tab C40 Try.f40.results.toList y) (C40.shIn (x_, y_)).st := by
  unfold f40 at hF
  refine Or.inl ?_
  refine Or.inl ?_
  refine Or.inl ?_
  refine And.intro (by decide) ?_
  refine Or.inl ?_
  refine Or.inl ?_
  refine And.intro (by decide) ?_
  refine Or.inl ?_
  refine Or.inl ?_
  refine And.intro (by decide) ?_
  refine Or.inl ?_
  refine Or.inl ?_
  refine And.intro (by decide) ?_
  refine Or.inl ?_
  refine Or.inl ?_
  refine And.intro (by decide) ?_
  refine Or.inl ?_
  have hy := someE hF
  subst hy
  refine And.intro rfl (Exists.intro [] (Exists.intro [] (Exists.intro [] (Exists.intro [] (Exists.intro [] (And.intro rfl (And.intro rfl (And.intro rfl (And.intro trivial trivial)))))))))
theorem C40_holds : C40.Holds Try.prog 40 := holds_of_vc tab_ok mixed (fn := Try.f40) (by kernel_rfl) rfl C40 (fun x y hF => C40_vc x.1 x.2 y hF)
theorem f40_in : ∃ fn, Try.prog.funcs[40]? = some fn ∧ fn.body.isSome = true ∧ (fn.name == "runtime.NumGoroutine") = false := ⟨Try.f40, by kernel_rfl, by kernel_rfl, by kernel_rfl⟩
end Go.Proofs
namespace Go.Proofs
open Go.AM
-- math/bits.Mul
def f33 (x_ : Int) (y_ : Int) : Option (Int × Int) :=
  bindF (f40 x_ y_) fun r1 =>
  some (r1.1, r1.2)
def C33 : Con where
  X := Int × Int
  Y := Int × Int
  e := 0
  args x := [.dat (.int .u64) x.1, .dat (.int .u64) x.2]
  hin x := []
  F x := f33 x.1 x.2
  ret y := [.dat (.int .u64) y.1, .dat (.int .u64) y.2]
  hout y := []
  nout := 0
theorem C33_vc (x_ : Int) (y_ : Int) (y : Int × Int) (hF : f33 x_ y_ = some y) : vc Try.prog tab Try.f33.ntmps 0 (match Try.f33.body with | some c => c | none => .skip) (retK tab C33 Try.f33.results.toList y) (C33.shIn (x_, y_)).st := by
  unfold f33 at hF
  refine Or.inl ?_
  refine Or.inl ?_
  refine condF ?_
  refine Or.inl ?_
  obtain ⟨r1, hr1, hF⟩ := bindE hF
  refine Or.inl (And.intro f40_in (callV0 (callI C40 (x_, y_) r1 [] false C40_holds hr1 rfl rfl ?_)))
  refine (And.intro rfl (And.intro rfl (And.intro (fun h => nomatch h) (And.intro rfl (And.intro rfl (And.intro trivial (And.intro trivial ?_)))))))
  refine Or.inl ?_
  have hy := someE hF
  subst hy
  refine And.intro rfl (Exists.intro [] (Exists.intro [] (Exists.intro [] (Exists.intro [] (Exists.intro [] (And.intro rfl (And.intro rfl (And.intro rfl (And.intro trivial trivial)))))))))
theorem C33_holds : C33.Holds Try.prog 33 := holds_of_vc tab_ok mixed (fn := Try.f33) (by kernel_rfl) rfl C33 (fun x y hF => C33_vc x.1 x.2 y hF)
theorem f33_in : ∃ fn, Try.prog.funcs[33]? = some fn ∧ fn.body.isSome = true ∧ (fn.name == "runtime.NumGoroutine") = false := ⟨Try.f33, by kernel_rfl, by kernel_rfl, by kernel_rfl⟩
end Go.Proofs
namespace Go.Proofs
open Go.AM
-- slices.Repeat[[]carousel/api.Fix,carousel/api.Fix]
def f24_j1 (r1 : Int × Int) : Option Unit :=
  bif (decide (r1.1 > (0 : Int))) then
    none
  else
    bif (decide (r1.2 > (9223372036854775807 : Int))) then
      none
    else
      some ()
def f24_l2 (go : (Int × (List Int)) → Option (List Int)) (n : Int) (l0 : List Int) : Option (List Int) :=
  bif (decide (n < (List.length l0 : Int))) then
    guardF (0 ≤ n ∧ n ≤ (List.length l0 : Int)) <|
    guardF (0 ≤ n ∧ n ≤ (List.length l0 : Int)) <|
    go ((IntKind.i64.wrap (n + (List.length (List.take (Int.toNat (List.length l0 : Int) - Int.toNat n) (List.drop (Int.toNat (0 : Int)) (List.take (Int.toNat n) l0))) : Int))), (over l0 n (List.take (Int.toNat (List.length l0 : Int) - Int.toNat n) (List.drop (Int.toNat (0 : Int)) (List.take (Int.toNat n) l0)))))
  else
    some l0
def f24 (x_ : List Int) (count : Int) : Option (List Int) :=
  bif (decide (count < (0 : Int))) then
    none
  else
    bindF (f33 (IntKind.u64.wrap (List.length x_ : Int)) (IntKind.u64.wrap count)) fun r1 =>
    bindF (f24_j1 r1) fun z2 =>
    guardF (0 ≤ (IntKind.i64.wrap r1.2) ∧ (IntKind.i64.wrap r1.2) ≤ (IntKind.i64.wrap r1.2) ∧ Int.toNat (IntKind.i64.wrap r1.2) * 8 ≤ 140737488355328) <|
    bindF (loopF (fun go x => f24_l2 go x.1 x.2) fuelN ((List.length (List.take (Int.toNat (List.length (List.replicate (Int.toNat (IntKind.i64.wrap r1.2)) (0 : Int)) : Int) - Int.toNat (0 : Int)) x_) : Int), (over (List.replicate (Int.toNat (IntKind.i64.wrap r1.2)) (0 : Int)) (0 : Int) (List.take (Int.toNat (List.length (List.replicate (Int.toNat (IntKind.i64.wrap r1.2)) (0 : Int)) : Int) - Int.toNat (0 : Int)) x_)))) fun z3 =>
    some z3
def C24 : Con where
  X := (List Int) × Int
  Y := List Int
  e := 0
  args x := [.dat (.sl (.int .i64)) x.1, .dat (.int .i64) x.2]
  hin x := []
  F x := f24 x.1 x.2
  ret y := [.raw false [(.osl 0)]]
  hout y := [(0, .arr 24 (.int .i64) y)]
  nout := 1
theorem C24_vc (x_ : List Int) (count : Int) (y : List Int) (hF : f24 x_ count = some y) : vc Try.prog tab Try.f24.ntmps 0 (match Try.f24.body with | some c => c | none => .skip) (retK tab C24 Try.f24.results.toList y) (C24.shIn (x_, count)).st := by
  unfold f24 at hF
  refine Or.inl ?_
  refine Or.inl ?_
  refine Or.inl ?_
  refine condI hF (fun hF => ?_) (fun hF => ?_)
  · exact nomatch hF
  · refine Or.inl ?_
    obtain ⟨r1, hr1, hF⟩ := bindE hF
    refine Or.inl (And.intro f33_in (callV0 (callI C33 ((IntKind.u64.wrap (List.length x_ : Int)), (IntKind.u64.wrap count)) r1 [] false C33_holds hr1 rfl rfl ?_)))
    refine (And.intro rfl (And.intro rfl (And.intro (fun h => nomatch h) (And.intro rfl (And.intro rfl (And.intro trivial (And.intro trivial ?_)))))))
    obtain ⟨z2, hz2, hF⟩ := bindE hF
    refine Or.inr ⟨[(0, ⟨[(0, .dat (.sl (.int .i64)) x_), (6, .dat (.int .u64) r1.2)], [], 0⟩)], ?_, ?_⟩
    · have hF := hz2
      clear hz2
      unfold f24_j1 at hF
      refine Or.inl ?_
      refine condN hF (fun hF => ?_) (fun hF => ?_)
      · refine gdYF ?_
        refine condF ?_
        refine condI hF (fun hF => ?_) (fun hF => ?_)
        · exact nomatch hF
        · have hz := someE hF
          subst hz
          refine Exists.intro [] (Exists.intro [] (Exists.intro [] (Exists.intro [] (Exists.intro [] (And.intro rfl (And.intro rfl (And.intro rfl (And.intro trivial trivial))))))))
      · refine gdNF ?_
        refine condT ?_
        refine condT ?_
        exact nomatch hF
    · refine And.intro ?_ trivial
      refine Or.inl ?_
      refine guardI hF (fun hF => ?_)
      refine Or.inl ?_
      refine Or.inl ?_
      obtain ⟨z3, hz3, hF⟩ := bindE hF
      refine loopI (Int × (List Int)) (List Int) (fun x => ⟨[(7, .raw false [(.osl 0)]), (8, .dat (.int .i64) x.1)], [(0, .arr 24 (.int .i64) x.2)], 1⟩) (fun z => [(2, ⟨[(7, .raw false [(.osl 0)])], [(0, .arr 24 (.int .i64) z)], 1⟩)]) (loopF (fun go x => f24_l2 go x.1 x.2)) fuelN ((List.length (List.take (Int.toNat (List.length (List.replicate (Int.toNat (IntKind.i64.wrap r1.2)) (0 : Int)) : Int) - Int.toNat (0 : Int)) x_) : Int), (over (List.replicate (Int.toNat (IntKind.i64.wrap r1.2)) (0 : Int)) (0 : Int) (List.take (Int.toNat (List.length (List.replicate (Int.toNat (IntKind.i64.wrap r1.2)) (0 : Int)) : Int) - Int.toNat (0 : Int)) x_))) z3 (And.intro hz3 (And.intro (Exists.intro [] (Exists.intro [] (Exists.intro [] (Exists.intro [] (Exists.intro [(0, some 0)] (And.intro rfl (And.intro rfl (And.intro (And.intro rfl trivial) (And.intro rfl trivial))))))))) (And.intro (fun _ _ h => loopZ h) (And.intro (fun m => curI (fun n => fun l0 z hF => ?_)) ?_))))
      · have hF : f24_l2 (loopF (fun go x => f24_l2 go x.1 x.2) m) n l0 = some z := hF
        unfold f24_l2 at hF
        refine Or.inl ?_
        refine Or.inl ?_
        refine condI hF (fun hF => ?_) (fun hF => ?_)
        · refine Exists.intro (.take 0 (.take 1 (.take 2 (.take 3 (.take 4 (.take 5 (.take 6 (.alt 7 (.take 8 (.take 9 .done)) .done)))))))) (Exists.intro [] (Exists.intro [] (And.intro rfl ?_)))
          refine guardI hF (fun hF => ?_)
          refine guardI hF (fun hF => ?_)
          refine And.intro trivial ?_
          refine Exists.intro ((IntKind.i64.wrap (n + (List.length (List.take (Int.toNat (List.length l0 : Int) - Int.toNat n) (List.drop (Int.toNat (0 : Int)) (List.take (Int.toNat n) l0))) : Int))), (over l0 n (List.take (Int.toNat (List.length l0 : Int) - Int.toNat n) (List.drop (Int.toNat (0 : Int)) (List.take (Int.toNat n) l0))))) (And.intro hF (Exists.intro [] (Exists.intro [] (Exists.intro [] (Exists.intro [] (Exists.intro [(0, some 0)] (And.intro rfl (And.intro rfl (And.intro (And.intro rfl trivial) (And.intro rfl trivial))))))))))
        · have hz := someE hF
          subst hz
          refine Exists.intro [] (Exists.intro [] (Exists.intro [] (Exists.intro [] (Exists.intro [(0, some 0)] (And.intro rfl (And.intro (And.intro rfl trivial) (And.intro rfl trivial)))))))
      · refine And.intro ?_ trivial
        refine Or.inl ?_
        have hy := someE hF
        subst hy
        refine And.intro rfl (Exists.intro [] (Exists.intro [] (Exists.intro [] (Exists.intro [] (Exists.intro [(0, some 0)] (And.intro rfl (And.intro (And.intro rfl trivial) (And.intro rfl trivial))))))))
theorem C24_holds : C24.Holds Try.prog 24 := holds_of_vc tab_ok mixed (fn := Try.f24) (by kernel_rfl) rfl C24 (fun x y hF => C24_vc x.1 x.2 y hF)
theorem f24_in : ∃ fn, Try.prog.funcs[24]? = some fn ∧ fn.body.isSome = true ∧ (fn.name == "runtime.NumGoroutine") = false := ⟨Try.f24, by kernel_rfl, by kernel_rfl, by kernel_rfl⟩
end Go.Proofs
namespace Go.Proofs
open Go.AM
-- carousel/tens.New
def f23 (d : List Int) (v : Int) : Option (Int × (List Int) × (List Int)) :=
  bindF (f25 d) fun r1 =>
  bif (!r1) then
    some ((1 : Int), [], [])
  else
    bindF (f27 d) fun r2 =>
    bindF (f26 d) fun r3 =>
    bindF (f24 ([v]) r3) fun r4 =>
    some ((0 : Int), r2, r4)
def C23 : Con where
  X := (List Int) × Int
  Y := Int × (List Int) × (List Int)
  e := 0
  args x := [.dat (.sl (.int .i64)) x.1, .dat (.int .i64) x.2]
  hin x := []
  F x := f23 x.1 x.2
  ret y := [.raw true [(.osl 0), (.osl 1)], .dat (.int .i64) y.1]
  hout y := [(0, .arr 3 (.int .i64) y.2.1), (1, .arr 24 (.int .i64) y.2.2)]
  nout := 2
theorem C23_vc (d : List Int) (v : Int) (y : Int × (List Int) × (List Int)) (hF : f23 d v = some y) : vc Try.prog tab Try.f23.ntmps 0 (match Try.f23.body with | some c => c | none => .skip) (retK tab C23 Try.f23.results.toList y) (C23.shIn (d, v)).st := by
  unfold f23 at hF
  refine Or.inl ?_
  refine Or.inl ?_
  refine Or.inl ?_
  obtain ⟨r1, hr1, hF⟩ := bindE hF
  refine Or.inl (And.intro f25_in (callV0 (callI C25 d r1 [] false C25_holds hr1 rfl rfl ?_)))
  refine (And.intro rfl (And.intro (fun h => nomatch h) (And.intro rfl (And.intro rfl (And.intro trivial (And.intro trivial ?_))))))
  refine condI hF (fun hF => ?_) (fun hF => ?_)
  · refine Or.inl ?_
    refine Or.inl ?_
    have hy := someE hF
    subst hy
    refine And.intro rfl (Exists.intro [] (Exists.intro [] (Exists.intro [] (Exists.intro [] (Exists.intro [(0, none), (1, none)] (And.intro rfl (And.intro rfl (And.intro (And.intro rfl trivial) (And.intro rfl (And.intro rfl trivial))))))))))
  · refine Or.inl ?_
    obtain ⟨r2, hr2, hF⟩ := bindE hF
    refine Or.inl (And.intro f27_in (callV0 (callI C27 d r2 [] false C27_holds hr2 rfl rfl ?_)))
    refine (And.intro rfl (And.intro (fun h => nomatch h) (And.intro rfl (And.intro rfl (And.intro trivial (And.intro trivial ?_))))))
    refine Or.inl ?_
    obtain ⟨r3, hr3, hF⟩ := bindE hF
    refine Or.inl (And.intro f26_in (callV0 (callI C26 d r3 [] false C26_holds hr3 rfl rfl ?_)))
    refine (And.intro rfl (And.intro (fun h => nomatch h) (And.intro rfl (And.intro rfl (And.intro trivial (And.intro trivial ?_))))))
    obtain ⟨r4, hr4, hF⟩ := bindE hF
    refine Or.inl (And.intro f24_in (callV0 (callI C24 ([v], r3) r4 [] true C24_holds hr4 rfl rfl ?_)))
    refine (And.intro rfl (And.intro rfl (And.intro (fun _ => rfl) (And.intro rfl (And.intro rfl (And.intro trivial (And.intro trivial ?_)))))))
    refine Or.inl ?_
    have hy := someE hF
    subst hy
    refine And.intro rfl (Exists.intro [] (Exists.intro [] (Exists.intro [] (Exists.intro [] (Exists.intro [(0, some 1), (1, some 3)] (And.intro rfl (And.intro rfl (And.intro (And.intro rfl trivial) (And.intro rfl (And.intro rfl trivial))))))))))
theorem C23_holds : C23.Holds Try.prog 23 := holds_of_vc tab_ok mixed (fn := Try.f23) (by kernel_rfl) rfl C23 (fun x y hF => C23_vc x.1 x.2 y hF)
theorem f23_in : ∃ fn, Try.prog.funcs[23]? = some fn ∧ fn.body.isSome = true ∧ (fn.name == "runtime.NumGoroutine") = false := ⟨Try.f23, by kernel_rfl, by kernel_rfl, by kernel_rfl⟩
end Go.Proofs
namespace Go.Proofs
open Go.AM
-- carousel/shape.Strides
def f67_l1 (d : List Int) (go : (Int × Int × (List Int)) → Option (List Int)) (n : Int) (i : Int) (l0 : List Int) : Option (List Int) :=
  bif (decide (i ≥ (0 : Int))) then
    guardF (0 ≤ i ∧ i < (List.length l0 : Int)) <|
    guardF (0 ≤ i ∧ i < (List.length d : Int)) <|
    go ((IntKind.i64.wrap (n * (rd (0 : Int) d i))), (IntKind.i64.wrap (i - (1 : Int))), (List.set l0 (Int.toNat i) n))
  else
    some l0
def f67 (d : List Int) : Option (List Int) :=
  bindF (f25 d) fun r1 =>
  bif (!r1) then
    some ([])
  else
    guardF (0 ≤ (List.length d : Int) ∧ (List.length d : Int) ≤ (List.length d : Int) ∧ Int.toNat (List.length d : Int) * 8 ≤ 140737488355328) <|
    bindF (loopF (fun go x => f67_l1 d go x.1 x.2.1 x.2.2) fuelN ((1 : Int), (IntKind.i64.wrap ((List.length d : Int) - (1 : Int))), (List.replicate (Int.toNat (List.length d : Int)) (0 : Int)))) fun z2 =>
    some z2
def C67 : Con where
  X := List Int
  Y := List Int
  e := 0
  args x := [.dat (.sl (.int .i64)) x]
  hin x := []
  F x := f67 x
  ret y := [.raw false [(.osl 0)]]
  hout y := [(0, .arr 3 (.int .i64) y)]
  nout := 1
theorem C67_vc (d : List Int) (y : List Int) (hF : f67 d = some y) : vc Try.prog tab Try.f67.ntmps 0 (match Try.f67.body with | some c => c | none => .skip) (retK tab C67 Try.f67.results.toList y) (C67.shIn d).st := by
  unfold f67 at hF
  refine Or.inl ?_
  refine Or.inl ?_
  refine Or.inl ?_
  obtain ⟨r1, hr1, hF⟩ := bindE hF
  refine Or.inl (And.intro f25_in (callV0 (callI C25 d r1 [] false C25_holds hr1 rfl rfl ?_)))
  refine (And.intro rfl (And.intro (fun h => nomatch h) (And.intro rfl (And.intro rfl (And.intro trivial (And.intro trivial ?_))))))
  refine condI hF (fun hF => ?_) (fun hF => ?_)
  · refine Or.inl ?_
    have hy := someE hF
    subst hy
    refine And.intro rfl (Exists.intro [] (Exists.intro [] (Exists.intro [] (Exists.intro [] (Exists.intro [(0, none)] (And.intro rfl (And.intro (And.intro rfl trivial) (And.intro rfl trivial))))))))
  · refine Or.inl ?_
    refine guardI hF (fun hF => ?_)
    refine Or.inl ?_
    refine Or.inl ?_
    refine Or.inl ?_
    obtain ⟨z2, hz2, hF⟩ := bindE hF
    refine loopI (Int × Int × (List Int)) (List Int) (fun x => ⟨[(0, .dat (.sl (.int .i64)) d), (3, .raw false [(.osl 0)]), (4, .dat (.int .i64) x.1), (5, .dat (.int .i64) x.2.1)], [(0, .arr 3 (.int .i64) x.2.2)], 1⟩) (fun z => [(2, ⟨[(3, .raw false [(.osl 0)])], [(0, .arr 3 (.int .i64) z)], 1⟩)]) (loopF (fun go x => f67_l1 d go x.1 x.2.1 x.2.2)) fuelN ((1 : Int), (IntKind.i64.wrap ((List.length d : Int) - (1 : Int))), (List.replicate (Int.toNat (List.length d : Int)) (0 : Int))) z2 (And.intro hz2 (And.intro (Exists.intro [] (Exists.intro [] (Exists.intro [] (Exists.intro [] (Exists.intro [(0, some 0)] (And.intro rfl (And.intro rfl (And.intro rfl (And.intro rfl (And.intro (And.intro rfl trivial) (And.intro rfl trivial))))))))))) (And.intro (fun _ _ h => loopZ h) (And.intro (fun m => curI (fun n => curI (fun i => fun l0 z hF => ?_))) ?_))))
    · have hF : f67_l1 d (loopF (fun go x => f67_l1 d go x.1 x.2.1 x.2.2) m) n i l0 = some z := hF
      unfold f67_l1 at hF
      refine Or.inl ?_
      refine Or.inl ?_
      refine condI hF (fun hF => ?_) (fun hF => ?_)
      · refine Or.inl ?_
        refine Or.inl ?_
        refine guardI hF (fun hF => ?_)
        refine Or.inl ?_
        refine guardI hF (fun hF => ?_)
        refine Exists.intro ((IntKind.i64.wrap (n * (rd (0 : Int) d i))), (IntKind.i64.wrap (i - (1 : Int))), (List.set l0 (Int.toNat i) n)) (And.intro hF (Exists.intro [] (Exists.intro [] (Exists.intro [] (Exists.intro [] (Exists.intro [(0, some 0)] (And.intro rfl (And.intro rfl (And.intro rfl (And.intro rfl (And.intro (And.intro rfl trivial) (And.intro rfl trivial))))))))))))
      · have hz := someE hF
        subst hz
        refine Exists.intro [] (Exists.intro [] (Exists.intro [] (Exists.intro [] (Exists.intro [(0, some 0)] (And.intro rfl (And.intro (And.intro rfl trivial) (And.intro rfl trivial)))))))
    · refine And.intro ?_ trivial
      refine Or.inl ?_
      have hy := someE hF
      subst hy
      refine And.intro rfl (Exists.intro [] (Exists.intro [] (Exists.intro [] (Exists.intro [] (Exists.intro [(0, some 0)] (And.intro rfl (And.intro (And.intro rfl trivial) (And.intro rfl trivial))))))))
theorem C67_holds : C67.Holds Try.prog 67 := holds_of_vc tab_ok mixed (fn := Try.f67) (by kernel_rfl) rfl C67 (fun x y hF => C67_vc x y hF)
theorem f67_in : ∃ fn, Try.prog.funcs[67]? = some fn ∧ fn.body.isSome = true ∧ (fn.name == "runtime.NumGoroutine") = false := ⟨Try.f67, by kernel_rfl, by kernel_rfl, by kernel_rfl⟩
end Go.Proofs
namespace Go.Proofs
open Go.AM
-- carousel/shape.Spread
def f76_j13 (d : List Int) (big : List Int) (q11_19 : List Int) (v23 : Int) (rest : Int) (i : Int) (l1_2 : List Int) : Option (List Int) :=
  guardF (0 ≤ (IntKind.i64.wrap (i - (IntKind.i64.wrap ((List.length big : Int) - (List.length d : Int))))) ∧ (IntKind.i64.wrap (i - (IntKind.i64.wrap ((List.length big : Int) - (List.length d : Int))))) < (List.length d : Int)) <|
  bif (decide ((rd (0 : Int) d (IntKind.i64.wrap (i - (IntKind.i64.wrap ((List.length big : Int) - (List.length d : Int)))))) > (1 : Int))) then
    guardF (0 ≤ v23 ∧ v23 < (List.length l1_2 : Int)) <|
    guardF (0 ≤ i ∧ i < (List.length big : Int)) <|
    guardF ((rd (0 : Int) big i) ≠ 0) <|
    guardF (0 ≤ (IntKind.i64.wrap (i - (IntKind.i64.wrap ((List.length big : Int) - (List.length d : Int))))) ∧ (IntKind.i64.wrap (i - (IntKind.i64.wrap ((List.length big : Int) - (List.length d : Int))))) < (List.length q11_19 : Int)) <|
    guardF (0 ≤ v23 ∧ v23 < (List.length l1_2 : Int)) <|
    some (List.set l1_2 (Int.toNat v23) (IntKind.i64.wrap ((rd (0 : Int) l1_2 v23) + (IntKind.i64.wrap ((Int.tmod rest (rd (0 : Int) big i)) * (rd (0 : Int) q11_19 (IntKind.i64.wrap (i - (IntKind.i64.wrap ((List.length big : Int) - (List.length d : Int)))))))))))
  else
    some l1_2
def f76_l12 (d : List Int) (big : List Int) (q11_19 : List Int) (v23 : Int) (go : (Int × Int × (List Int)) → Option (List Int)) (rest : Int) (i : Int) (l1_2 : List Int) : Option (List Int) :=
  bif (decide (i ≥ (IntKind.i64.wrap ((List.length big : Int) - (List.length d : Int))))) then
    bindF (f76_j13 d big q11_19 v23 rest i l1_2) fun z14 =>
    guardF (0 ≤ i ∧ i < (List.length big : Int)) <|
    guardF ((rd (0 : Int) big i) ≠ 0) <|
    go ((IntKind.i64.wrap (Int.tdiv rest (rd (0 : Int) big i))), (IntKind.i64.wrap (i - (1 : Int))), z14)
  else
    some l1_2
def f76_l9 (d : List Int) (big : List Int) (q11_19 : List Int) (r1 : Int) (go : (Int × (List Int)) → Option (List Int)) (v23 : Int) (l1 : List Int) : Option (List Int) :=
  bif (decide (v23 < (List.length (List.replicate (Int.toNat r1) (0 : Int)) : Int))) then
    bindF (loopF (fun go x => f76_l12 d big q11_19 v23 go x.1 x.2.1 x.2.2) fuelN (v23, (IntKind.i64.wrap ((List.length big : Int) - (1 : Int))), l1)) fun z13 =>
    go ((IntKind.i64.wrap (v23 + (1 : Int))), z13)
  else
    some l1
def f76 (d : List Int) (big : List Int) : Option (List Int) :=
  bindF (f67 d) fun q11_19 =>
  bindF (f26 big) fun r1 =>
  guardF (0 ≤ r1 ∧ r1 ≤ r1 ∧ Int.toNat r1 * 8 ≤ 140737488355328) <|
  bindF (loopF (fun go x => f76_l9 d big q11_19 r1 go x.1 x.2) fuelN ((0 : Int), (List.replicate (Int.toNat r1) (0 : Int)))) fun z10 =>
  some z10
def C76 : Con where
  X := (List Int) × (List Int)
  Y := List Int
  e := 0
  args x := [.dat (.sl (.int .i64)) x.1, .dat (.sl (.int .i64)) x.2]
  hin x := []
  F x := f76 x.1 x.2
  ret y := [.raw false [(.osl 0)]]
  hout y := [(0, .arr 3 (.int .i64) y)]
  nout := 1
theorem C76_vc (d : List Int) (big : List Int) (y : List Int) (hF : f76 d big = some y) : vc Try.prog tab Try.f76.ntmps 0 (match Try.f76.body with | some c => c | none => .skip) (retK tab C76 Try.f76.results.toList y) (C76.shIn (d, big)).st := by
  unfold f76 at hF
  refine Or.inl ?_
  refine Or.inl ?_
  obtain ⟨q11_19, hq11_19, hF⟩ := bindE hF
  refine Or.inl (And.intro f67_in (callV0 (callI C67 d q11_19 [] false C67_holds hq11_19 rfl rfl ?_)))
  refine (And.intro rfl (And.intro (fun h => nomatch h) (And.intro rfl (And.intro rfl (And.intro trivial (And.intro trivial ?_))))))
  refine Or.inl ?_
  obtain ⟨r1, hr1, hF⟩ := bindE hF
  refine Or.inl (And.intro f26_in (callV0 (callI C26 big r1 [] false C26_holds hr1 rfl rfl ?_)))
  refine (And.intro rfl (And.intro (fun h => nomatch h) (And.intro rfl (And.intro rfl (And.intro trivial (And.intro trivial ?_))))))
  refine guardI hF (fun hF => ?_)
  refine Or.inl ?_
  refine Or.inl ?_
  obtain ⟨z10, hz10, hF⟩ := bindE hF
  refine loopI (Int × (List Int)) (List Int) (fun x => ⟨[(0, .dat (.sl (.int .i64)) d), (1, .dat (.sl (.int .i64)) big), (5, .raw false [(.osl 0)]), (6, .dat (.int .i64) (IntKind.i64.wrap ((List.length big : Int) - (List.length d : Int)))), (7, .raw false [(.osl 1)]), (22, .dat (.int .i64) (List.length (List.replicate (Int.toNat r1) (0 : Int)) : Int)), (23, .dat (.int .i64) x.1)], [(0, .arr 3 (.int .i64) q11_19), (1, .arr 3 (.int .i64) x.2)], 2⟩) (fun z => [(2, ⟨[(7, .raw false [(.osl 0)])], [(0, .arr 3 (.int .i64) z)], 1⟩)]) (loopF (fun go x => f76_l9 d big q11_19 r1 go x.1 x.2)) fuelN ((0 : Int), (List.replicate (Int.toNat r1) (0 : Int))) z10 (And.intro hz10 (And.intro (Exists.intro [] (Exists.intro [] (Exists.intro [] (Exists.intro [] (Exists.intro [(0, some 0), (1, some 1)] (And.intro rfl (And.intro rfl (And.intro rfl (And.intro rfl (And.intro rfl (And.intro rfl (And.intro (And.intro rfl (And.intro rfl trivial)) (And.intro rfl (And.intro rfl trivial)))))))))))))) (And.intro (fun _ _ h => loopZ h) (And.intro (fun m => curI (fun v23 => fun l1 z hF => ?_)) ?_))))
  · have hF : f76_l9 d big q11_19 r1 (loopF (fun go x => f76_l9 d big q11_19 r1 go x.1 x.2) m) v23 l1 = some z := hF
    unfold f76_l9 at hF
    refine Or.inl ?_
    refine Or.inl ?_
    refine condI hF (fun hF => ?_) (fun hF => ?_)
    · refine Or.inl ?_
      refine Or.inl ?_
      refine Or.inl ?_
      refine Or.inl ?_
      obtain ⟨z13, hz13, hF⟩ := bindE hF
      refine loopI (Int × Int × (List Int)) (List Int) (fun x => ⟨[(0, .dat (.sl (.int .i64)) d), (1, .dat (.sl (.int .i64)) big), (5, .raw false [(.osl 0)]), (6, .dat (.int .i64) (IntKind.i64.wrap ((List.length big : Int) - (List.length d : Int)))), (7, .raw false [(.osl 1)]), (8, .dat (.int .i64) v23), (9, .dat (.int .i64) x.1), (10, .dat (.int .i64) x.2.1), (22, .dat (.int .i64) (List.length (List.replicate (Int.toNat r1) (0 : Int)) : Int)), (23, .dat (.int .i64) v23)], [(0, .arr 3 (.int .i64) q11_19), (1, .arr 3 (.int .i64) x.2.2)], 2⟩) (fun z => [(4, ⟨[(0, .dat (.sl (.int .i64)) d), (1, .dat (.sl (.int .i64)) big), (5, .raw false [(.osl 0)]), (6, .dat (.int .i64) (IntKind.i64.wrap ((List.length big : Int) - (List.length d : Int)))), (7, .raw false [(.osl 1)]), (22, .dat (.int .i64) (List.length (List.replicate (Int.toNat r1) (0 : Int)) : Int)), (23, .dat (.int .i64) v23)], [(0, .arr 3 (.int .i64) q11_19), (1, .arr 3 (.int .i64) z)], 2⟩)]) (loopF (fun go x => f76_l12 d big q11_19 v23 go x.1 x.2.1 x.2.2)) fuelN (v23, (IntKind.i64.wrap ((List.length big : Int) - (1 : Int))), l1) z13 (And.intro hz13 (And.intro (Exists.intro [] (Exists.intro [] (Exists.intro [] (Exists.intro [] (Exists.intro [(0, some 0), (1, some 1)] (And.intro rfl (And.intro rfl (And.intro rfl (And.intro rfl (And.intro rfl (And.intro rfl (And.intro rfl (And.intro rfl (And.intro rfl (And.intro (And.intro rfl (And.intro rfl trivial)) (And.intro rfl (And.intro rfl trivial))))))))))))))))) (And.intro (fun _ _ h => loopZ h) (And.intro (fun m => curI (fun rest => curI (fun i => fun l1_2 z hF => ?_))) ?_))))
      · have hF : f76_l12 d big q11_19 v23 (loopF (fun go x => f76_l12 d big q11_19 v23 go x.1 x.2.1 x.2.2) m) rest i l1_2 = some z := hF
        unfold f76_l12 at hF
        refine Or.inl ?_
        refine Or.inl ?_
        refine condI hF (fun hF => ?_) (fun hF => ?_)
        · refine Or.inl ?_
          obtain ⟨z14, hz14, hF⟩ := bindE hF
          refine Or.inr ⟨[(0, ⟨[(0, .dat (.sl (.int .i64)) d), (1, .dat (.sl (.int .i64)) big), (5, .raw false [(.osl 0)]), (6, .dat (.int .i64) (IntKind.i64.wrap ((List.length big : Int) - (List.length d : Int)))), (7, .raw false [(.osl 1)]), (8, .dat (.int .i64) v23), (9, .dat (.int .i64) rest), (10, .dat (.int .i64) i), (22, .dat (.int .i64) (List.length (List.replicate (Int.toNat r1) (0 : Int)) : Int)), (23, .dat (.int .i64) v23)], [(0, .arr 3 (.int .i64) q11_19), (1, .arr 3 (.int .i64) z14)], 2⟩)], ?_, ?_⟩
          · have hF := hz14
            clear hz14
            unfold f76_j13 at hF
            refine Or.inl ?_
            refine guardI hF (fun hF => ?_)
            refine condI hF (fun hF => ?_) (fun hF => ?_)
            · refine Exists.intro (.take 0 (.take 1 (.take 2 (.take 3 (.take 4 (.take 5 (.take 6 (.take 7 (.take 8 (.take 9 (.take 10 (.take 11 (.take 12 (.take 13 (.take 14 (.take 15 (.take 16 (.take 17 (.take 18 (.alt 19 .done .done)))))))))))))))))))) (Exists.intro [(19, [1])] (Exists.intro [] (And.intro rfl ?_)))
              refine guardI hF (fun hF => ?_)
              refine guardI hF (fun hF => ?_)
              refine guardI hF (fun hF => ?_)
              refine guardI hF (fun hF => ?_)
              refine guardI hF (fun hF => ?_)
              refine And.intro trivial ?_
              refine Or.inl ?_
              have hz := someE hF
              subst hz
              refine Exists.intro [] (Exists.intro [] (Exists.intro [] (Exists.intro [] (Exists.intro [(0, some 0), (1, some 1)] (And.intro rfl (And.intro rfl (And.intro rfl (And.intro rfl (And.intro rfl (And.intro rfl (And.intro rfl (And.intro rfl (And.intro rfl (And.intro (And.intro rfl (And.intro rfl trivial)) (And.intro rfl (And.intro rfl trivial))))))))))))))))
            · have hz := someE hF
              subst hz
              refine Exists.intro [] (Exists.intro [] (Exists.intro [] (Exists.intro [] (Exists.intro [(0, some 0), (1, some 1)] (And.intro rfl (And.intro rfl (And.intro rfl (And.intro rfl (And.intro rfl (And.intro rfl (And.intro rfl (And.intro rfl (And.intro rfl (And.intro (And.intro rfl (And.intro rfl trivial)) (And.intro rfl (And.intro rfl trivial))))))))))))))))
          · refine And.intro ?_ trivial
            refine guardI hF (fun hF => ?_)
            refine guardI hF (fun hF => ?_)
            refine Exists.intro ((IntKind.i64.wrap (Int.tdiv rest (rd (0 : Int) big i))), (IntKind.i64.wrap (i - (1 : Int))), z14) (And.intro hF (Exists.intro [] (Exists.intro [] (Exists.intro [] (Exists.intro [] (Exists.intro [(0, some 0), (1, some 1)] (And.intro rfl (And.intro rfl (And.intro rfl (And.intro rfl (And.intro rfl (And.intro rfl (And.intro rfl (And.intro rfl (And.intro rfl (And.intro (And.intro rfl (And.intro rfl trivial)) (And.intro rfl (And.intro rfl trivial))))))))))))))))))
        · have hz := someE hF
          subst hz
          refine Exists.intro [] (Exists.intro [] (Exists.intro [] (Exists.intro [] (Exists.intro [(0, some 0), (1, some 1)] (And.intro rfl (And.intro rfl (And.intro rfl (And.intro rfl (And.intro rfl (And.intro rfl (And.intro (And.intro rfl (And.intro rfl trivial)) (And.intro rfl (And.intro rfl trivial)))))))))))))
      · refine And.intro ?_ trivial
        refine Exists.intro ((IntKind.i64.wrap (v23 + (1 : Int))), z13) (And.intro hF (Exists.intro [] (Exists.intro [] (Exists.intro [] (Exists.intro [] (Exists.intro [(0, some 0), (1, some 1)] (And.intro rfl (And.intro rfl (And.intro rfl (And.intro rfl (And.intro rfl (And.intro rfl (And.intro (And.intro rfl (And.intro rfl trivial)) (And.intro rfl (And.intro rfl trivial)))))))))))))))
    · have hz := someE hF
      subst hz
      refine Exists.intro [] (Exists.intro [] (Exists.intro [] (Exists.intro [] (Exists.intro [(0, some 1)] (And.intro rfl (And.intro (And.intro rfl trivial) (And.intro rfl trivial)))))))
  · refine And.intro ?_ trivial
    refine Or.inl ?_
    have hy := someE hF
    subst hy
    refine And.intro rfl (Exists.intro [] (Exists.intro [] (Exists.intro [] (Exists.intro [] (Exists.intro [(0, some 0)] (And.intro rfl (And.intro (And.intro rfl trivial) (And.intro rfl trivial))))))))
theorem C76_holds : C76.Holds Try.prog 76 := holds_of_vc tab_ok mixed (fn := Try.f76) (by kernel_rfl) rfl C76 (fun x y hF => C76_vc x.1 x.2 y hF)
theorem f76_in : ∃ fn, Try.prog.funcs[76]? = some fn ∧ fn.body.isSome = true ∧ (fn.name == "runtime.NumGoroutine") = false := ⟨Try.f76, by kernel_rfl, by kernel_rfl, by kernel_rfl⟩
end Go.Proofs
namespace Go.Proofs
open Go.AM
-- carousel/fix.Add
def f56_j1 (a : Int) (b : Int) : Option (Sum Unit Unit) :=
  bif (!((decide (a < (0 : Int))) == (decide (b < (0 : Int))))) then
    some (Sum.inr ())
  else
    bif ((decide ((IntKind.i64.wrap (a + b)) < (0 : Int))) == (decide (a < (0 : Int)))) then
      some (Sum.inr ())
    else
      some (Sum.inl ())
def f56 (a : Int) (b : Int) : Option Int :=
  bindF (f56_j1 a b) fun z1 =>
  sumF z1 (fun z1a =>
    bif (decide (a < (0 : Int))) then
      some (-9223372036854775808 : Int)
    else
      some (9223372036854775807 : Int)) (fun z1b =>
    some (IntKind.i64.wrap (a + b)))
def C56 : Con where
  X := Int × Int
  Y := Int
  e := 0
  args x := [.dat (.int .i64) x.1, .dat (.int .i64) x.2]
  hin x := []
  F x := f56 x.1 x.2
  ret y := [.dat (.int .i64) y]
  hout y := []
  nout := 0
theorem C56_vc (a : Int) (b : Int) (y : Int) (hF : f56 a b = some y) : vc Try.prog tab Try.f56.ntmps 0 (match Try.f56.body with | some c => c | none => .skip) (retK tab C56 Try.f56.results.toList y) (C56.shIn (a, b)).st := by
  unfold f56 at hF
  refine Or.inl ?_
  refine Or.inl ?_
  obtain ⟨z1, hz1, hF⟩ := bindE hF
  refine Or.inr ⟨Sum.elim (fun z1a => [(0, ⟨[(0, .dat (.int .i64) a)], [], 0⟩)]) (fun z1b => [(1, ⟨[(4, .dat (.int .i64) (IntKind.i64.wrap (a + b)))], [], 0⟩)]) z1, ?_, ?_⟩
  · have hF := hz1
    clear hz1
    unfold f56_j1 at hF
    refine Or.inl ?_
    refine condN hF (fun hF => ?_) (fun hF => ?_)
    · refine gdYF ?_
      refine gdYF ?_
      refine gdYF ?_
      refine gdYF ?_
      refine condF ?_
      refine condI hF (fun hF => ?_) (fun hF => ?_)
      · refine Or.inl ?_
        have hz := someE hF
        subst hz
        refine Exists.intro [] (Exists.intro [] (Exists.intro [] (Exists.intro [] (Exists.intro [] (And.intro rfl (And.intro rfl (And.intro trivial trivial)))))))
      · have hz := someE hF
        subst hz
        refine Exists.intro [] (Exists.intro [] (Exists.intro [] (Exists.intro [] (Exists.intro [] (And.intro rfl (And.intro rfl (And.intro trivial trivial)))))))
    · refine gdNF ?_
      refine gdNF ?_
      refine gdNF ?_
      refine gdNF ?_
      refine condT ?_
      refine condT ?_
      refine Or.inl ?_
      have hz := someE hF
      subst hz
      refine Exists.intro [] (Exists.intro [] (Exists.intro [] (Exists.intro [] (Exists.intro [] (And.intro rfl (And.intro rfl (And.intro trivial trivial)))))))
  · rcases z1 with z1a | z1b
    · dsimp only [sumF] at hF
      refine And.intro ?_ trivial
      refine Or.inl ?_
      refine Or.inl ?_
      refine condI hF (fun hF => ?_) (fun hF => ?_)
      · refine Or.inl ?_
        have hy := someE hF
        subst hy
        refine And.intro rfl (Exists.intro [] (Exists.intro [] (Exists.intro [] (Exists.intro [] (Exists.intro [] (And.intro rfl (And.intro rfl (And.intro trivial trivial))))))))
      · refine Or.inl ?_
        have hy := someE hF
        subst hy
        refine And.intro rfl (Exists.intro [] (Exists.intro [] (Exists.intro [] (Exists.intro [] (Exists.intro [] (And.intro rfl (And.intro rfl (And.intro trivial trivial))))))))
    · dsimp only [sumF] at hF
      refine And.intro ?_ trivial
      have hy := someE hF
      subst hy
      refine And.intro rfl (Exists.intro [] (Exists.intro [] (Exists.intro [] (Exists.intro [] (Exists.intro [] (And.intro rfl (And.intro rfl (And.intro trivial trivial))))))))
theorem C56_holds : C56.Holds Try.prog 56 := holds_of_vc tab_ok mixed (fn := Try.f56) (by kernel_rfl) rfl C56 (fun x y hF => C56_vc x.1 x.2 y hF)
theorem f56_in : ∃ fn, Try.prog.funcs[56]? = some fn ∧ fn.body.isSome = true ∧ (fn.name == "runtime.NumGoroutine") = false := ⟨Try.f56, by kernel_rfl, by kernel_rfl, by kernel_rfl⟩
end Go.Proofs
