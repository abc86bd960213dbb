import Derived.Test.YtgkmdgdkmgkelaaGreatGradKnownF0
set_option linter.unusedVariables false
set_option maxRecDepth 100000
set_option maxHeartbeats 8000000
namespace Go.Proofs
open Go.AM
-- (*carousel/tape.Tape).Leaf
def f73 (t_l : List (Int × Int × Int × Int × (List Int) × (List Int))) (x_ : (List Int) × (List Int)) : Option (Int × Int × (List (Int × Int × Int × Int × (List Int) × (List Int)))) :=
  bif (decide ((List.length t_l : Int) ≥ (512 : Int))) then
    some ((0 : Int), (2 : Int), t_l)
  else
    bindF (f86 (x_.1, x_.2)) fun r1 =>
    bif (!r1) then
      some ((0 : Int), (1 : Int), t_l)
    else
      bindF (f85 (x_.1, x_.2)) fun r2 =>
      bindF (f104 t_l ((1 : Int), (-1 : Int), (-1 : Int), (0 : Int), r2.1, r2.2)) fun r3 =>
      some (r3.1, (0 : Int), r3.2)
def C73 : Con where
  X := (List (Int × Int × Int × Int × (List Int) × (List Int))) × ((List Int) × (List Int))
  Y := Int × Int × (List (Int × Int × Int × Int × (List Int) × (List Int)))
  e := 2
  args x := [.raw false [(.ptr 0 0)], .dat (.p (.sl (.int .i64)) (.sl (.int .i64))) x.2]
  hin x := [(0, .cells [(.osl 1)]), (1, .arr 132 (.p (.int .i64) (.p (.int .i64) (.p (.int .i64) (.p (.int .i64) (.p (.sl (.int .i64)) (.sl (.int .i64))))))) x.1)]
  F x := f73 x.1 x.2
  ret y := [.dat (.int .i64) y.1, .dat (.int .i64) y.2.1]
  hout y := [(0, .cells [(.osl 2)]), (2, .arr 132 (.p (.int .i64) (.p (.int .i64) (.p (.int .i64) (.p (.int .i64) (.p (.sl (.int .i64)) (.sl (.int .i64))))))) y.2.2)]
  nout := 3
theorem C73_vc (t_l : List (Int × Int × Int × Int × (List Int) × (List Int))) (x_ : (List Int) × (List Int)) (y : Int × Int × (List (Int × Int × Int × Int × (List Int) × (List Int)))) (hF : f73 t_l x_ = some y) : vc Tryz.prog tab Tryz.f73.ntmps 2 (match Tryz.f73.body with | some c => c | none => .skip) (retK tab C73 Tryz.f73.results.toList y) (C73.shIn (t_l, x_)).st := by
  unfold f73 at hF
  refine Or.inl ?_
  refine Or.inl ?_
  refine Or.inl ?_
  refine condI hF (fun hF => ?_) (fun hF => ?_)
  · refine Or.inl ?_
    have hy := someE hF
    subst hy
    refine And.intro rfl (Exists.intro [] (Exists.intro [] (Exists.intro [] (Exists.intro [] (Exists.intro [(0, some 0), (2, some 1)] (And.intro rfl (And.intro rfl (And.intro rfl (And.intro trivial (And.intro rfl (And.intro rfl trivial)))))))))))
  · refine Or.inl ?_
    obtain ⟨r1, hr1, hF⟩ := bindE hF
    refine Or.inl (And.intro f86_in (callV0 (callI C86 (x_.1, x_.2) r1 [] false C86_holds hr1 rfl rfl ?_)))
    refine (And.intro rfl (And.intro rfl (And.intro (fun h => nomatch h) (And.intro rfl (And.intro rfl (And.intro trivial (And.intro trivial ?_)))))))
    refine condI hF (fun hF => ?_) (fun hF => ?_)
    · refine Or.inl ?_
      have hy := someE hF
      subst hy
      refine And.intro rfl (Exists.intro [] (Exists.intro [] (Exists.intro [] (Exists.intro [] (Exists.intro [(0, some 0), (2, some 1)] (And.intro rfl (And.intro rfl (And.intro rfl (And.intro trivial (And.intro rfl (And.intro rfl trivial)))))))))))
    · refine Or.inl ?_
      obtain ⟨r2, hr2, hF⟩ := bindE hF
      refine Or.inl (And.intro f85_in (callV0 (callI C85 (x_.1, x_.2) r2 [] false C85_holds hr2 rfl rfl ?_)))
      refine (And.intro rfl (And.intro rfl (And.intro (fun h => nomatch h) (And.intro rfl (And.intro rfl (And.intro trivial (And.intro trivial ?_)))))))
      obtain ⟨r3, hr3, hF⟩ := bindE hF
      have hr3 : C104.F (t_l, ((1 : Int), (-1 : Int), (-1 : Int), (0 : Int), r2.1, r2.2)) = some r3 := hr3
      refine Or.inl (And.intro f104_in (callV0 (callI C104 _ r3 [(0, some 0), (1, some 1)] false C104_holds hr3 rfl rfl ?_)))
      refine (And.intro rfl (And.intro rfl (And.intro (fun h => nomatch h) (And.intro rfl (And.intro rfl (And.intro (And.intro rfl trivial) (And.intro (And.intro rfl (And.intro rfl trivial)) ?_)))))))
      have hy := someE hF
      subst hy
      refine And.intro rfl (Exists.intro [] (Exists.intro [] (Exists.intro [] (Exists.intro [] (Exists.intro [(0, some 0), (2, some 7)] (And.intro rfl (And.intro rfl (And.intro rfl (And.intro trivial (And.intro rfl (And.intro rfl trivial)))))))))))
theorem C73_holds : C73.Holds Tryz.prog 73 := holds_of_vc tab_ok mixed (fn := Tryz.f73) (by kernel_rfl) rfl C73 (fun x y hF => C73_vc x.1 x.2 y hF)
theorem f73_in : ∃ fn, Tryz.prog.funcs[73]? = some fn ∧ fn.body.isSome = true ∧ (fn.name == "runtime.NumGoroutine") = false := ⟨Tryz.f73, by kernel_rfl, by kernel_rfl, by kernel_rfl⟩
end Go.Proofs
namespace Go.Proofs
open Go.AM
-- (*carousel/model.runner).leaf
def f46 (r_t_l : List (Int × Int × Int × Int × (List Int) × (List Int))) (r_e : Int) (r_p : List Int) (r_leafs : List Int) (d : List Int) (v : List Int) : Option (Int × Int × (List Int) × (List Int) × (List (Int × Int × Int × Int × (List Int) × (List Int)))) :=
  bif (r_e != (0 : Int)) then
    some ((0 : Int), r_e, r_p, r_leafs, r_t_l)
  else
    bindF (f73 r_t_l (d, v)) fun r1 =>
    some (r1.1, r1.2.1, r_p, r_leafs, r1.2.2)
def C46 : Con where
  X := (List (Int × Int × Int × Int × (List Int) × (List Int))) × Int × (List Int) × (List Int) × (List Int) × (List Int)
  Y := Int × Int × (List Int) × (List Int) × (List (Int × Int × Int × Int × (List Int) × (List Int)))
  e := 4
  args x := [.raw false [(.ptr 0 0)], .dat (.sl (.int .i64)) x.2.2.2.2.1, .dat (.sl (.int .i64)) x.2.2.2.2.2]
  hin x := [(0, .cells [(.ptr 1 0), (.d (.int .i64) x.2.1), (.d (.sl (.int .i64)) x.2.2.1), (.osl 3)]), (1, .cells [(.osl 2)]), (2, .arr 132 (.p (.int .i64) (.p (.int .i64) (.p (.int .i64) (.p (.int .i64) (.p (.sl (.int .i64)) (.sl (.int .i64))))))) x.1), (3, .arr 3 (.int .i64) x.2.2.2.1)]
  F x := f46 x.1 x.2.1 x.2.2.1 x.2.2.2.1 x.2.2.2.2.1 x.2.2.2.2.2
  ret y := [.dat (.int .i64) y.1]
  hout y := [(0, .cells [(.ptr 1 0), (.d (.int .i64) y.2.1), (.d (.sl (.int .i64)) y.2.2.1), (.osl 3)]), (1, .cells [(.osl 4)]), (3, .arr 3 (.int .i64) y.2.2.2.1), (4, .arr 132 (.p (.int .i64) (.p (.int .i64) (.p (.int .i64) (.p (.int .i64) (.p (.sl (.int .i64)) (.sl (.int .i64))))))) y.2.2.2.2)]
  nout := 5
theorem C46_vc (r_t_l : List (Int × Int × Int × Int × (List Int) × (List Int))) (r_e : Int) (r_p : List Int) (r_leafs : List Int) (d : List Int) (v : List Int) (y : Int × Int × (List Int) × (List Int) × (List (Int × Int × Int × Int × (List Int) × (List Int)))) (hF : f46 r_t_l r_e r_p r_leafs d v = some y) : vc Tryz.prog tab Tryz.f46.ntmps 4 (match Tryz.f46.body with | some c => c | none => .skip) (retK tab C46 Tryz.f46.results.toList y) (C46.shIn (r_t_l, r_e, r_p, r_leafs, d, v)).st := by
  unfold f46 at hF
  refine Or.inl ?_
  refine Or.inl ?_
  refine Or.inl ?_
  refine condI hF (fun hF => ?_) (fun hF => ?_)
  · refine Or.inl ?_
    have hy := someE hF
    subst hy
    refine And.intro rfl (Exists.intro [] (Exists.intro [] (Exists.intro [] (Exists.intro [] (Exists.intro [(0, some 0), (1, some 1), (3, some 3), (4, some 2)] (And.intro rfl (And.intro rfl (And.intro trivial (And.intro rfl (And.intro rfl (And.intro rfl (And.intro rfl trivial))))))))))))
  · refine Or.inl ?_
    obtain ⟨r1, hr1, hF⟩ := bindE hF
    refine Or.inl (And.intro f73_in (callV0 (callI C73 (r_t_l, (d, v)) r1 [(0, some 1), (1, some 2)] false C73_holds hr1 rfl rfl ?_)))
    refine (And.intro rfl (And.intro rfl (And.intro (fun h => nomatch h) (And.intro rfl (And.intro rfl (And.intro (And.intro rfl trivial) (And.intro (And.intro rfl (And.intro rfl trivial)) ?_)))))))
    refine Or.inl ?_
    refine Or.inl ?_
    refine Or.inl ?_
    have hy := someE hF
    subst hy
    refine And.intro rfl (Exists.intro [] (Exists.intro [] (Exists.intro [] (Exists.intro [] (Exists.intro [(0, some 0), (1, some 1), (3, some 3), (4, some 6)] (And.intro rfl (And.intro rfl (And.intro trivial (And.intro rfl (And.intro rfl (And.intro rfl (And.intro rfl trivial))))))))))))
theorem C46_holds : C46.Holds Tryz.prog 46 := holds_of_vc tab_ok mixed (fn := Tryz.f46) (by kernel_rfl) rfl C46 (fun x y hF => C46_vc x.1 x.2.1 x.2.2.1 x.2.2.2.1 x.2.2.2.2.1 x.2.2.2.2.2 y hF)
theorem f46_in : ∃ fn, Tryz.prog.funcs[46]? = some fn ∧ fn.body.isSome = true ∧ (fn.name == "runtime.NumGoroutine") = false := ⟨Tryz.f46, by kernel_rfl, by kernel_rfl, by kernel_rfl⟩
end Go.Proofs
namespace Go.Proofs
open Go.AM
-- (*carousel/model.runner).params
def f74_j4 (l : List (List Int)) (v12 : Int) (c0_1 : Int) (c0_2 : List Int) (l4 : List Int) (l5 : List (Int × Int × Int × Int × (List Int) × (List Int))) : Option (Int × Int × (List Int) × (List Int) × (List (Int × Int × Int × Int × (List Int) × (List Int)))) :=
  bindF (f44 (rd (Ty.z (.sl (.int .i64))) l v12)) fun q5_7 =>
  guardF (0 ≤ q5_7 ∧ q5_7 ≤ (List.length c0_2 : Int)) <|
  bindF (f46 l5 c0_1 c0_2 l4 (rd (Ty.z (.sl (.int .i64))) l v12) (List.take (Int.toNat q5_7) c0_2)) fun q5_9 =>
  some (q5_9.1, q5_9.2.1, q5_9.2.2.1, q5_9.2.2.2.1, q5_9.2.2.2.2)
def f74_l3 (l : List (List Int)) (go : (Int × Int × Int × Int × (List Int) × (List Int) × (List (Int × Int × Int × Int × (List Int) × (List Int)))) → Option (Int × Int × Int × (List Int) × (List Int) × (List (Int × Int × Int × Int × (List Int) × (List Int))))) (first : Int) (last : Int) (v12 : Int) (c0_1 : Int) (c0_2 : List Int) (l4 : List Int) (l5 : List (Int × Int × Int × Int × (List Int) × (List Int))) : Option (Int × Int × Int × (List Int) × (List Int) × (List (Int × Int × Int × Int × (List Int) × (List Int)))) :=
  bif (decide (v12 < (List.length l : Int))) then
    guardF (0 ≤ v12 ∧ v12 < (List.length l : Int)) <|
    bindF (f74_j4 l v12 c0_1 c0_2 l4 l5) fun z4 =>
    bindF (f44 (rd (Ty.z (.sl (.int .i64))) l v12)) fun q6_6 =>
    guardF (0 ≤ q6_6 ∧ q6_6 ≤ (List.length z4.2.2.1 : Int)) <|
    guardF ((List.length z4.2.2.2.1 + List.length ([z4.1])) * 8 ≤ 140737488355328) <|
    bif (v12 == (0 : Int)) then
      go (z4.1, z4.1, (IntKind.i64.wrap (v12 + (1 : Int))), z4.2.1, (List.drop (Int.toNat q6_6) z4.2.2.1), (z4.2.2.2.1 ++ ([z4.1])), z4.2.2.2.2)
    else
      go (first, z4.1, (IntKind.i64.wrap (v12 + (1 : Int))), z4.2.1, (List.drop (Int.toNat q6_6) z4.2.2.1), (z4.2.2.2.1 ++ ([z4.1])), z4.2.2.2.2)
  else
    some (first, last, c0_1, c0_2, l4, l5)
def f74 (r_t_l : List (Int × Int × Int × Int × (List Int) × (List Int))) (r_e : Int) (r_p : List Int) (r_leafs : List Int) (l : List (List Int)) : Option (Int × Int × Int × (List Int) × (List Int) × (List (Int × Int × Int × Int × (List Int) × (List Int)))) :=
  bindF (loopF (fun go x => f74_l3 l go x.1 x.2.1 x.2.2.1 x.2.2.2.1 x.2.2.2.2.1 x.2.2.2.2.2.1 x.2.2.2.2.2.2) fuelN ((0 : Int), (0 : Int), (0 : Int), r_e, r_p, r_leafs, r_t_l)) fun z3 =>
  some (z3.1, z3.2.1, z3.2.2.1, z3.2.2.2.1, z3.2.2.2.2.1, z3.2.2.2.2.2)
def C74 : Con where
  X := (List (Int × Int × Int × Int × (List Int) × (List Int))) × Int × (List Int) × (List Int) × (List (List Int))
  Y := Int × Int × Int × (List Int) × (List Int) × (List (Int × Int × Int × Int × (List Int) × (List Int)))
  e := 4
  args x := [.raw false [(.ptr 0 0)], .dat (.sl (.sl (.int .i64))) x.2.2.2.2]
  hin x := [(0, .cells [(.ptr 1 0), (.d (.int .i64) x.2.1), (.d (.sl (.int .i64)) x.2.2.1), (.osl 3)]), (1, .cells [(.osl 2)]), (2, .arr 132 (.p (.int .i64) (.p (.int .i64) (.p (.int .i64) (.p (.int .i64) (.p (.sl (.int .i64)) (.sl (.int .i64))))))) x.1), (3, .arr 3 (.int .i64) x.2.2.2.1)]
  F x := f74 x.1 x.2.1 x.2.2.1 x.2.2.2.1 x.2.2.2.2
  ret y := [.dat (.int .i64) y.1, .dat (.int .i64) y.2.1]
  hout y := [(0, .cells [(.ptr 1 0), (.d (.int .i64) y.2.2.1), (.d (.sl (.int .i64)) y.2.2.2.1), (.osl 4)]), (1, .cells [(.osl 5)]), (4, .arr 3 (.int .i64) y.2.2.2.2.1), (5, .arr 132 (.p (.int .i64) (.p (.int .i64) (.p (.int .i64) (.p (.int .i64) (.p (.sl (.int .i64)) (.sl (.int .i64))))))) y.2.2.2.2.2)]
  nout := 6
theorem C74_vc (r_t_l : List (Int × Int × Int × Int × (List Int) × (List Int))) (r_e : Int) (r_p : List Int) (r_leafs : List Int) (l : List (List Int)) (y : Int × Int × Int × (List Int) × (List Int) × (List (Int × Int × Int × Int × (List Int) × (List Int)))) (hF : f74 r_t_l r_e r_p r_leafs l = some y) : vc Tryz.prog tab Tryz.f74.ntmps 4 (match Tryz.f74.body with | some c => c | none => .skip) (retK tab C74 Tryz.f74.results.toList y) (C74.shIn (r_t_l, r_e, r_p, r_leafs, l)).st := by
  unfold f74 at hF
  refine Or.inl ?_
  refine Or.inl ?_
  refine Or.inl ?_
  refine Or.inl ?_
  obtain ⟨z3, hz3, hF⟩ := bindE hF
  refine loopI (Int × Int × Int × Int × (List Int) × (List Int) × (List (Int × Int × Int × Int × (List Int) × (List Int)))) (Int × Int × Int × (List Int) × (List Int) × (List (Int × Int × Int × Int × (List Int) × (List Int)))) (fun x => ⟨[(0, .raw false [(.ptr 0 0)]), (6, .dat (.int .i64) x.1), (7, .dat (.int .i64) x.2.1), (10, .dat (.sl (.sl (.int .i64))) l), (11, .dat (.int .i64) (List.length l : Int)), (12, .dat (.int .i64) x.2.2.1)], [(0, .cells [(.ptr 1 0), (.d (.int .i64) x.2.2.2.1), (.d (.sl (.int .i64)) x.2.2.2.2.1), (.osl 4)]), (1, .cells [(.osl 5)]), (4, .arr 3 (.int .i64) x.2.2.2.2.2.1), (5, .arr 132 (.p (.int .i64) (.p (.int .i64) (.p (.int .i64) (.p (.int .i64) (.p (.sl (.int .i64)) (.sl (.int .i64))))))) x.2.2.2.2.2.2)], 6⟩) (fun z => [(2, ⟨[(6, .dat (.int .i64) z.1), (7, .dat (.int .i64) z.2.1)], [(0, .cells [(.ptr 1 0), (.d (.int .i64) z.2.2.1), (.d (.sl (.int .i64)) z.2.2.2.1), (.osl 4)]), (1, .cells [(.osl 5)]), (4, .arr 3 (.int .i64) z.2.2.2.2.1), (5, .arr 132 (.p (.int .i64) (.p (.int .i64) (.p (.int .i64) (.p (.int .i64) (.p (.sl (.int .i64)) (.sl (.int .i64))))))) z.2.2.2.2.2)], 6⟩)]) (loopF (fun go x => f74_l3 l go x.1 x.2.1 x.2.2.1 x.2.2.2.1 x.2.2.2.2.1 x.2.2.2.2.2.1 x.2.2.2.2.2.2)) fuelN ((0 : Int), (0 : Int), (0 : Int), r_e, r_p, r_leafs, r_t_l) z3 (And.intro hz3 (And.intro (Exists.intro [] (Exists.intro [] (Exists.intro [] (Exists.intro [] (Exists.intro [(0, some 0), (1, some 1), (4, some 3), (5, some 2)] (And.intro rfl (And.intro rfl (And.intro rfl (And.intro rfl (And.intro rfl (And.intro rfl (And.intro (And.intro rfl trivial) (And.intro rfl (And.intro rfl (And.intro rfl (And.intro rfl trivial)))))))))))))))) (And.intro (fun _ _ h => loopZ h) (And.intro (fun m => curI (fun first => curI (fun last => curI (fun v12 => curI (fun c0_1 => curI (fun c0_2 => curI (fun l4 => fun l5 z hF => ?_))))))) ?_))))
  · have hF : f74_l3 l (loopF (fun go x => f74_l3 l go x.1 x.2.1 x.2.2.1 x.2.2.2.1 x.2.2.2.2.1 x.2.2.2.2.2.1 x.2.2.2.2.2.2) m) first last v12 c0_1 c0_2 l4 l5 = some z := hF
    unfold f74_l3 at hF
    refine Or.inl ?_
    refine Or.inl ?_
    refine condI hF (fun hF => ?_) (fun hF => ?_)
    · refine Or.inl ?_
      refine Or.inl ?_
      refine guardI hF (fun hF => ?_)
      obtain ⟨z4, hz4, hF⟩ := bindE hF
      refine Or.inr ⟨[(0, ⟨[(0, .raw false [(.ptr 0 0)]), (6, .dat (.int .i64) first), (7, .dat (.int .i64) z4.1), (8, .dat (.int .i64) v12), (9, .dat (.sl (.int .i64)) (rd (Ty.z (.sl (.int .i64))) l v12)), (10, .dat (.sl (.sl (.int .i64))) l), (11, .dat (.int .i64) (List.length l : Int)), (12, .dat (.int .i64) v12)], [(0, .cells [(.ptr 1 0), (.d (.int .i64) z4.2.1), (.d (.sl (.int .i64)) z4.2.2.1), (.osl 4)]), (1, .cells [(.osl 5)]), (4, .arr 3 (.int .i64) z4.2.2.2.1), (5, .arr 132 (.p (.int .i64) (.p (.int .i64) (.p (.int .i64) (.p (.int .i64) (.p (.sl (.int .i64)) (.sl (.int .i64))))))) z4.2.2.2.2)], 6⟩)], ?_, ?_⟩
      · have hF := hz4
        clear hz4
        unfold f74_j4 at hF
        obtain ⟨q5_7, hq5_7, hF⟩ := bindE hF
        obtain ⟨g5_1, hF⟩ := guardE hF
        obtain ⟨q5_9, hq5_9, hF⟩ := bindE hF
        refine Exists.intro (.take 0 (.take 1 (.take 2 (.take 3 (.take 4 (.take 6 (.alt 5 (.alt 7 (.take 8 (.alt 9 (.take 10 .done) .done)) .done) (.alt 7 (.alt 5 (.take 8 (.alt 9 (.take 10 .done) .done)) .done) .done)))))))) (Exists.intro [(9, [0])] (Exists.intro [] (And.intro rfl ?_)))
        refine And.intro (And.intro trivial ?_) ?_
        · refine Or.inl (And.intro f44_in (callV0 (callI C44 (rd (Ty.z (.sl (.int .i64))) l v12) q5_7 [] false C44_holds hq5_7 rfl rfl ?_)))
          refine (And.intro rfl (And.intro (fun h => nomatch h) (And.intro rfl (And.intro rfl (And.intro trivial (And.intro trivial ?_))))))
          refine And.intro trivial ?_
          refine And.intro g5_1 ?_
          refine And.intro trivial ?_
          refine Or.inl (And.intro f46_in (callV0 (callI C46 (l5, c0_1, c0_2, l4, (rd (Ty.z (.sl (.int .i64))) l v12), (List.take (Int.toNat q5_7) c0_2)) q5_9 [(0, some 0), (1, some 1), (2, some 5), (3, some 4)] false C46_holds hq5_9 rfl rfl ?_)))
          refine (And.intro rfl (And.intro rfl (And.intro (fun h => nomatch h) (And.intro rfl (And.intro rfl (And.intro (And.intro rfl trivial) (And.intro (And.intro rfl (And.intro rfl (And.intro rfl (And.intro rfl trivial)))) ?_)))))))
          have hz := someE hF
          subst hz
          refine Exists.intro [] (Exists.intro [] (Exists.intro [] (Exists.intro [] (Exists.intro [(0, some 0), (1, some 1), (4, some 4), (5, some 10)] (And.intro rfl (And.intro rfl (And.intro rfl (And.intro rfl (And.intro rfl (And.intro rfl (And.intro rfl (And.intro rfl (And.intro (And.intro rfl trivial) (And.intro rfl (And.intro rfl (And.intro rfl (And.intro rfl trivial)))))))))))))))))
        · refine And.intro trivial ?_
          refine Or.inl (And.intro f44_in (callV0 (callI C44 (rd (Ty.z (.sl (.int .i64))) l v12) q5_7 [] false C44_holds hq5_7 rfl rfl ?_)))
          refine (And.intro rfl (And.intro (fun h => nomatch h) (And.intro rfl (And.intro rfl (And.intro trivial (And.intro trivial ?_))))))
          refine And.intro g5_1 ?_
          refine And.intro trivial ?_
          refine Or.inl (And.intro f46_in (callV0 (callI C46 (l5, c0_1, c0_2, l4, (rd (Ty.z (.sl (.int .i64))) l v12), (List.take (Int.toNat q5_7) c0_2)) q5_9 [(0, some 0), (1, some 1), (2, some 5), (3, some 4)] false C46_holds hq5_9 rfl rfl ?_)))
          refine (And.intro rfl (And.intro rfl (And.intro (fun h => nomatch h) (And.intro rfl (And.intro rfl (And.intro (And.intro rfl trivial) (And.intro (And.intro rfl (And.intro rfl (And.intro rfl (And.intro rfl trivial)))) ?_)))))))
          have hz := someE hF
          subst hz
          refine Exists.intro [] (Exists.intro [] (Exists.intro [] (Exists.intro [] (Exists.intro [(0, some 0), (1, some 1), (4, some 4), (5, some 10)] (And.intro rfl (And.intro rfl (And.intro rfl (And.intro rfl (And.intro rfl (And.intro rfl (And.intro rfl (And.intro rfl (And.intro (And.intro rfl trivial) (And.intro rfl (And.intro rfl (And.intro rfl (And.intro rfl trivial)))))))))))))))))
      · refine And.intro ?_ trivial
        refine Or.inl ?_
        refine Exists.intro (.take 0 (.take 1 (.take 2 (.take 3 (.take 4 (.take 5 (.alt 6 (.take 7 (.take 8 (.take 9 (.alt 10 .done .done)))) .done))))))) (Exists.intro [(10, [0])] (Exists.intro [] (And.intro rfl ?_)))
        refine And.intro trivial ?_
        obtain ⟨q6_6, hq6_6, hF⟩ := bindE hF
        refine Or.inl (And.intro f44_in (callV0 (callI C44 (rd (Ty.z (.sl (.int .i64))) l v12) q6_6 [] false C44_holds hq6_6 rfl rfl ?_)))
        refine (And.intro rfl (And.intro (fun h => nomatch h) (And.intro rfl (And.intro rfl (And.intro trivial (And.intro trivial ?_))))))
        refine guardI hF (fun hF => ?_)
        refine And.intro trivial ?_
        refine Or.inl ?_
        refine Or.inl ?_
        refine Or.inl ?_
        refine Or.inl ?_
        refine guardI hF (fun hF => ?_)
        refine Or.inl ?_
        refine Or.inl ?_
        refine condI hF (fun hF => ?_) (fun hF => ?_)
        · refine Exists.intro (z4.1, z4.1, (IntKind.i64.wrap (v12 + (1 : Int))), z4.2.1, (List.drop (Int.toNat q6_6) z4.2.2.1), (z4.2.2.2.1 ++ ([z4.1])), z4.2.2.2.2) (And.intro hF (Exists.intro [] (Exists.intro [] (Exists.intro [] (Exists.intro [] (Exists.intro [(0, some 0), (1, some 1), (4, some 7), (5, some 5)] (And.intro rfl (And.intro rfl (And.intro rfl (And.intro rfl (And.intro rfl (And.intro rfl (And.intro (And.intro rfl trivial) (And.intro rfl (And.intro rfl (And.intro rfl (And.intro rfl trivial)))))))))))))))))
        · refine Exists.intro (first, z4.1, (IntKind.i64.wrap (v12 + (1 : Int))), z4.2.1, (List.drop (Int.toNat q6_6) z4.2.2.1), (z4.2.2.2.1 ++ ([z4.1])), z4.2.2.2.2) (And.intro hF (Exists.intro [] (Exists.intro [] (Exists.intro [] (Exists.intro [] (Exists.intro [(0, some 0), (1, some 1), (4, some 7), (5, some 5)] (And.intro rfl (And.intro rfl (And.intro rfl (And.intro rfl (And.intro rfl (And.intro rfl (And.intro (And.intro rfl trivial) (And.intro rfl (And.intro rfl (And.intro rfl (And.intro rfl trivial)))))))))))))))))
    · have hz := someE hF
      subst hz
      refine Exists.intro [] (Exists.intro [] (Exists.intro [] (Exists.intro [] (Exists.intro [(0, some 0), (1, some 1), (4, some 4), (5, some 5)] (And.intro rfl (And.intro rfl (And.intro rfl (And.intro trivial (And.intro rfl (And.intro rfl (And.intro rfl (And.intro rfl trivial))))))))))))
  · refine And.intro ?_ trivial
    refine Or.inl ?_
    have hy := someE hF
    subst hy
    refine And.intro rfl (Exists.intro [] (Exists.intro [] (Exists.intro [] (Exists.intro [] (Exists.intro [(0, some 0), (1, some 1), (4, some 4), (5, some 5)] (And.intro rfl (And.intro rfl (And.intro rfl (And.intro trivial (And.intro rfl (And.intro rfl (And.intro rfl (And.intro rfl trivial)))))))))))))
theorem C74_holds : C74.Holds Tryz.prog 74 := holds_of_vc tab_ok mixed (fn := Tryz.f74) (by kernel_rfl) rfl C74 (fun x y hF => C74_vc x.1 x.2.1 x.2.2.1 x.2.2.2.1 x.2.2.2.2 y hF)
theorem f74_in : ∃ fn, Tryz.prog.funcs[74]? = some fn ∧ fn.body.isSome = true ∧ (fn.name == "runtime.NumGoroutine") = false := ⟨Tryz.f74, by kernel_rfl, by kernel_rfl, by kernel_rfl⟩
end Go.Proofs
namespace Go.Proofs
open Go.AM
-- (*carousel/tape.Tape).has
def f84 (t_l : List (Int × Int × Int × Int × (List Int) × (List Int))) (n : Int) : Option (Bool × (List (Int × Int × Int × Int × (List Int) × (List Int)))) :=
  bif (decide (n ≥ (0 : Int))) then
    some ((decide (n < (List.length t_l : Int))), t_l)
  else
    some (false, t_l)
def C84 : Con where
  X := (List (Int × Int × Int × Int × (List Int) × (List Int))) × Int
  Y := Bool × (List (Int × Int × Int × Int × (List Int) × (List Int)))
  e := 2
  args x := [.raw false [(.ptr 0 0)], .dat (.int .i64) x.2]
  hin x := [(0, .cells [(.osl 1)]), (1, .arr 132 (.p (.int .i64) (.p (.int .i64) (.p (.int .i64) (.p (.int .i64) (.p (.sl (.int .i64)) (.sl (.int .i64))))))) x.1)]
  F x := f84 x.1 x.2
  ret y := [.dat .bool y.1]
  hout y := [(0, .cells [(.osl 1)]), (1, .arr 132 (.p (.int .i64) (.p (.int .i64) (.p (.int .i64) (.p (.int .i64) (.p (.sl (.int .i64)) (.sl (.int .i64))))))) y.2)]
  nout := 2
theorem C84_vc (t_l : List (Int × Int × Int × Int × (List Int) × (List Int))) (n : Int) (y : Bool × (List (Int × Int × Int × Int × (List Int) × (List Int)))) (hF : f84 t_l n = some y) : vc Tryz.prog tab Tryz.f84.ntmps 2 (match Tryz.f84.body with | some c => c | none => .skip) (retK tab C84 Tryz.f84.results.toList y) (C84.shIn (t_l, n)).st := by
  unfold f84 at hF
  refine Or.inl ?_
  refine Or.inl ?_
  refine condI hF (fun hF => ?_) (fun hF => ?_)
  · refine gdYT ?_
    refine gdYT ?_
    refine gdYT ?_
    refine gdYT ?_
    refine gdYT ?_
    refine gdYT ?_
    refine condT ?_
    have hy := someE hF
    subst hy
    refine And.intro rfl (Exists.intro [] (Exists.intro [] (Exists.intro [] (Exists.intro [] (Exists.intro [(0, some 0), (1, some 1)] (And.intro rfl (And.intro rfl (And.intro trivial (And.intro rfl (And.intro rfl trivial))))))))))
  · refine gdNT ?_
    refine gdNT ?_
    refine gdNT ?_
    refine gdNT ?_
    refine gdNT ?_
    refine gdNT ?_
    refine condF ?_
    have hy := someE hF
    subst hy
    refine And.intro rfl (Exists.intro [] (Exists.intro [] (Exists.intro [] (Exists.intro [] (Exists.intro [(0, some 0), (1, some 1)] (And.intro rfl (And.intro rfl (And.intro trivial (And.intro rfl (And.intro rfl trivial))))))))))
theorem C84_holds : C84.Holds Tryz.prog 84 := holds_of_vc tab_ok mixed (fn := Tryz.f84) (by kernel_rfl) rfl C84 (fun x y hF => C84_vc x.1 x.2 y hF)
theorem f84_in : ∃ fn, Tryz.prog.funcs[84]? = some fn ∧ fn.body.isSome = true ∧ (fn.name == "runtime.NumGoroutine") = false := ⟨Tryz.f84, by kernel_rfl, by kernel_rfl, by kernel_rfl⟩
end Go.Proofs
namespace Go.Proofs
open Go.AM
-- carousel/tape.two
def f136 (op : Int) : Option Bool :=
  bif (op == (2 : Int)) then
    some true
  else
    bif (op == (3 : Int)) then
      some true
    else
      bif (op == (4 : Int)) then
        some true
      else
        bif (op == (6 : Int)) then
          some true
        else
          some (op == (12 : Int))
def C136 : Con where
  X := Int
  Y := Bool
  e := 0
  args x := [.dat (.int .i64) x]
  hin x := []
  F x := f136 x
  ret y := [.dat .bool y]
  hout y := []
  nout := 0
theorem C136_vc (op : Int) (y : Bool) (hF : f136 op = some y) : vc Tryz.prog tab Tryz.f136.ntmps 0 (match Tryz.f136.body with | some c => c | none => .skip) (retK tab C136 Tryz.f136.results.toList y) (C136.shIn op).st := by
  unfold f136 at hF
  refine Or.inl ?_
  refine Or.inl ?_
  refine condN hF (fun hF => ?_) (fun hF => ?_)
  · refine gdYF ?_
    refine condF ?_
    refine condN hF (fun hF => ?_) (fun hF => ?_)
    · refine gdYF ?_
      refine condF ?_
      refine condN hF (fun hF => ?_) (fun hF => ?_)
      · refine gdYF ?_
        refine condF ?_
        refine condN hF (fun hF => ?_) (fun hF => ?_)
        · refine gdYF ?_
          refine condF ?_
          have hy := someE hF
          subst hy
          refine And.intro rfl (Exists.intro [] (Exists.intro [] (Exists.intro [] (Exists.intro [] (Exists.intro [] (And.intro rfl (And.intro rfl (And.intro trivial trivial))))))))
        · refine gdNF ?_
          refine condT ?_
          have hy := someE hF
          subst hy
          refine And.intro rfl (Exists.intro [] (Exists.intro [] (Exists.intro [] (Exists.intro [] (Exists.intro [] (And.intro rfl (And.intro rfl (And.intro trivial trivial))))))))
      · refine gdNF ?_
        refine condT ?_
        refine gdNF ?_
        refine gdNF ?_
        refine condT ?_
        have hy := someE hF
        subst hy
        refine And.intro rfl (Exists.intro [] (Exists.intro [] (Exists.intro [] (Exists.intro [] (Exists.intro [] (And.intro rfl (And.intro rfl (And.intro trivial trivial))))))))
    · refine gdNF ?_
      refine condT ?_
      refine gdNF ?_
      refine gdNF ?_
      refine condT ?_
      refine gdNF ?_
      refine gdNF ?_
      refine condT ?_
      have hy := someE hF
      subst hy
      refine And.intro rfl (Exists.intro [] (Exists.intro [] (Exists.intro [] (Exists.intro [] (Exists.intro [] (And.intro rfl (And.intro rfl (And.intro trivial trivial))))))))
  · refine gdNF ?_
    refine condT ?_
    refine gdNF ?_
    refine gdNF ?_
    refine condT ?_
    refine gdNF ?_
    refine gdNF ?_
    refine condT ?_
    refine gdNF ?_
    refine gdNF ?_
    refine condT ?_
    have hy := someE hF
    subst hy
    refine And.intro rfl (Exists.intro [] (Exists.intro [] (Exists.intro [] (Exists.intro [] (Exists.intro [] (And.intro rfl (And.intro rfl (And.intro trivial trivial))))))))
theorem C136_holds : C136.Holds Tryz.prog 136 := holds_of_vc tab_ok mixed (fn := Tryz.f136) (by kernel_rfl) rfl C136 (fun x y hF => C136_vc x y hF)
theorem f136_in : ∃ fn, Tryz.prog.funcs[136]? = some fn ∧ fn.body.isSome = true ∧ (fn.name == "runtime.NumGoroutine") = false := ⟨Tryz.f136, by kernel_rfl, by kernel_rfl, by kernel_rfl⟩
end Go.Proofs
namespace Go.Proofs
open Go.AM
-- carousel/tape.counts
def f137 (op : Int) : Option Bool :=
  bif (op == (5 : Int)) then
    some true
  else
    bif (op == (8 : Int)) then
      some true
    else
      bif (op == (11 : Int)) then
        some true
      else
        bif (op == (12 : Int)) then
          some true
        else
          some (op == (13 : Int))
def C137 : Con where
  X := Int
  Y := Bool
  e := 0
  args x := [.dat (.int .i64) x]
  hin x := []
  F x := f137 x
  ret y := [.dat .bool y]
  hout y := []
  nout := 0
theorem C137_vc (op : Int) (y : Bool) (hF : f137 op = some y) : vc Tryz.prog tab Tryz.f137.ntmps 0 (match Tryz.f137.body with | some c => c | none => .skip) (retK tab C137 Tryz.f137.results.toList y) (C137.shIn op).st := by
  unfold f137 at hF
  refine Or.inl ?_
  refine Or.inl ?_
  refine condN hF (fun hF => ?_) (fun hF => ?_)
  · refine gdYF ?_
    refine condF ?_
    refine condN hF (fun hF => ?_) (fun hF => ?_)
    · refine gdYF ?_
      refine condF ?_
      refine condN hF (fun hF => ?_) (fun hF => ?_)
      · refine gdYF ?_
        refine condF ?_
        refine condN hF (fun hF => ?_) (fun hF => ?_)
        · refine gdYF ?_
          refine condF ?_
          have hy := someE hF
          subst hy
          refine And.intro rfl (Exists.intro [] (Exists.intro [] (Exists.intro [] (Exists.intro [] (Exists.intro [] (And.intro rfl (And.intro rfl (And.intro trivial trivial))))))))
        · refine gdNF ?_
          refine condT ?_
          have hy := someE hF
          subst hy
          refine And.intro rfl (Exists.intro [] (Exists.intro [] (Exists.intro [] (Exists.intro [] (Exists.intro [] (And.intro rfl (And.intro rfl (And.intro trivial trivial))))))))
      · refine gdNF ?_
        refine condT ?_
        refine gdNF ?_
        refine gdNF ?_
        refine condT ?_
        have hy := someE hF
        subst hy
        refine And.intro rfl (Exists.intro [] (Exists.intro [] (Exists.intro [] (Exists.intro [] (Exists.intro [] (And.intro rfl (And.intro rfl (And.intro trivial trivial))))))))
    · refine gdNF ?_
      refine condT ?_
      refine gdNF ?_
      refine gdNF ?_
      refine condT ?_
      refine gdNF ?_
      refine gdNF ?_
      refine condT ?_
      have hy := someE hF
      subst hy
      refine And.intro rfl (Exists.intro [] (Exists.intro [] (Exists.intro [] (Exists.intro [] (Exists.intro [] (And.intro rfl (And.intro rfl (And.intro trivial trivial))))))))
  · refine gdNF ?_
    refine condT ?_
    refine gdNF ?_
    refine gdNF ?_
    refine condT ?_
    refine gdNF ?_
    refine gdNF ?_
    refine condT ?_
    refine gdNF ?_
    refine gdNF ?_
    refine condT ?_
    have hy := someE hF
    subst hy
    refine And.intro rfl (Exists.intro [] (Exists.intro [] (Exists.intro [] (Exists.intro [] (Exists.intro [] (And.intro rfl (And.intro rfl (And.intro trivial trivial))))))))
theorem C137_holds : C137.Holds Tryz.prog 137 := holds_of_vc tab_ok mixed (fn := Tryz.f137) (by kernel_rfl) rfl C137 (fun x y hF => C137_vc x y hF)
theorem f137_in : ∃ fn, Tryz.prog.funcs[137]? = some fn ∧ fn.body.isSome = true ∧ (fn.name == "runtime.NumGoroutine") = false := ⟨Tryz.f137, by kernel_rfl, by kernel_rfl, by kernel_rfl⟩
end Go.Proofs
namespace Go.Proofs
open Go.AM
-- carousel/shape.side
def f180 (d : List Int) (i : Int) : Option Int :=
  bif (decide (i ≥ (List.length d : Int))) then
    some (1 : Int)
  else
    guardF (0 ≤ (IntKind.i64.wrap ((IntKind.i64.wrap ((List.length d : Int) - (1 : Int))) - i)) ∧ (IntKind.i64.wrap ((IntKind.i64.wrap ((List.length d : Int) - (1 : Int))) - i)) < (List.length d : Int)) <|
    some (rd (0 : Int) d (IntKind.i64.wrap ((IntKind.i64.wrap ((List.length d : Int) - (1 : Int))) - i)))
def C180 : Con where
  X := (List Int) × Int
  Y := Int
  e := 0
  args x := [.dat (.sl (.int .i64)) x.1, .dat (.int .i64) x.2]
  hin x := []
  F x := f180 x.1 x.2
  ret y := [.dat (.int .i64) y]
  hout y := []
  nout := 0
theorem C180_vc (d : List Int) (i : Int) (y : Int) (hF : f180 d i = some y) : vc Tryz.prog tab Tryz.f180.ntmps 0 (match Tryz.f180.body with | some c => c | none => .skip) (retK tab C180 Tryz.f180.results.toList y) (C180.shIn (d, i)).st := by
  unfold f180 at hF
  refine Or.inl ?_
  refine Or.inl ?_
  refine Or.inl ?_
  refine condI hF (fun hF => ?_) (fun hF => ?_)
  · refine Or.inl ?_
    have hy := someE hF
    subst hy
    refine And.intro rfl (Exists.intro [] (Exists.intro [] (Exists.intro [] (Exists.intro [] (Exists.intro [] (And.intro rfl (And.intro rfl (And.intro trivial trivial))))))))
  · refine Or.inl ?_
    refine guardI hF (fun hF => ?_)
    have hy := someE hF
    subst hy
    refine And.intro rfl (Exists.intro [] (Exists.intro [] (Exists.intro [] (Exists.intro [] (Exists.intro [] (And.intro rfl (And.intro rfl (And.intro trivial trivial))))))))
theorem C180_holds : C180.Holds Tryz.prog 180 := holds_of_vc tab_ok mixed (fn := Tryz.f180) (by kernel_rfl) rfl C180 (fun x y hF => C180_vc x.1 x.2 y hF)
theorem f180_in : ∃ fn, Tryz.prog.funcs[180]? = some fn ∧ fn.body.isSome = true ∧ (fn.name == "runtime.NumGoroutine") = false := ⟨Tryz.f180, by kernel_rfl, by kernel_rfl, by kernel_rfl⟩
end Go.Proofs
namespace Go.Proofs
open Go.AM
-- carousel/shape.Join
def f141_j1 (a : List Int) (b : List Int) : Option (Sum Unit Unit) :=
  bindF (f72 a) fun r4 =>
  bif (!r4) then
    some (Sum.inr ())
  else
    bindF (f72 b) fun r5 =>
    bif (!r5) then
      some (Sum.inr ())
    else
      some (Sum.inl ())
def f141_j5 (r13 : Int) (r14 : Int) : Option (Sum Unit Unit) :=
  bif (r13 != r14) then
    bif (r13 != (1 : Int)) then
      bif (r14 != (1 : Int)) then
        some (Sum.inr ())
      else
        some (Sum.inl ())
    else
      some (Sum.inl ())
  else
    some (Sum.inl ())
def f141_l4 (a : List Int) (b : List Int) (go : (Int × (List Int)) → Option (Sum Unit (List Int))) (v26 : Int) (l0 : List Int) : Option (Sum Unit (List Int)) :=
  bif (decide (v26 < (List.length (List.replicate (Int.toNat (if (List.length b : Int) > (List.length a : Int) then (List.length b : Int) else (List.length a : Int))) (0 : Int)) : Int))) then
    bindF (f180 a v26) fun r13 =>
    bindF (f180 b v26) fun r14 =>
    bindF (f141_j5 r13 r14) fun z15 =>
    sumF z15 (fun z15a =>
      guardF (0 ≤ (IntKind.i64.wrap ((IntKind.i64.wrap ((List.length l0 : Int) - (1 : Int))) - v26)) ∧ (IntKind.i64.wrap ((IntKind.i64.wrap ((List.length l0 : Int) - (1 : Int))) - v26)) < (List.length l0 : Int)) <|
      go ((IntKind.i64.wrap (v26 + (1 : Int))), (List.set l0 (Int.toNat (IntKind.i64.wrap ((IntKind.i64.wrap ((List.length l0 : Int) - (1 : Int))) - v26))) (if r14 > r13 then r14 else r13)))) (fun z15b =>
      some (Sum.inl ()))
  else
    some (Sum.inr l0)
def f141 (a : List Int) (b : List Int) : Option (Int × (List Int)) :=
  bindF (f141_j1 a b) fun z3 =>
  sumF z3 (fun z3a =>
    guardF (0 ≤ (if (List.length b : Int) > (List.length a : Int) then (List.length b : Int) else (List.length a : Int)) ∧ (if (List.length b : Int) > (List.length a : Int) then (List.length b : Int) else (List.length a : Int)) ≤ (if (List.length b : Int) > (List.length a : Int) then (List.length b : Int) else (List.length a : Int)) ∧ Int.toNat (if (List.length b : Int) > (List.length a : Int) then (List.length b : Int) else (List.length a : Int)) * 8 ≤ 140737488355328) <|
    bindF (loopF (fun go x => f141_l4 a b go x.1 x.2) fuelN ((0 : Int), (List.replicate (Int.toNat (if (List.length b : Int) > (List.length a : Int) then (List.length b : Int) else (List.length a : Int))) (0 : Int)))) fun z12 =>
    sumF z12 (fun z12a =>
      some ((4 : Int), [])) (fun z12b =>
      bindF (f72 z12b) fun r16 =>
      bif (!r16) then
        some ((2 : Int), [])
      else
        some ((0 : Int), z12b))) (fun z3b =>
    some ((1 : Int), []))
def C141 : Con where
  X := (List Int) × (List Int)
  Y := Int × (List Int)
  e := 0
  args x := [.dat (.sl (.int .i64)) x.1, .dat (.sl (.int .i64)) x.2]
  hin x := []
  F x := f141 x.1 x.2
  ret y := [.raw false [(.osl 0)], .dat (.int .i64) y.1]
  hout y := [(0, .arr 3 (.int .i64) y.2)]
  nout := 1
theorem C141_vc (a : List Int) (b : List Int) (y : Int × (List Int)) (hF : f141 a b = some y) : vc Tryz.prog tab Tryz.f141.ntmps 0 (match Tryz.f141.body with | some c => c | none => .skip) (retK tab C141 Tryz.f141.results.toList y) (C141.shIn (a, b)).st := by
  unfold f141 at hF
  refine Or.inl ?_
  obtain ⟨z3, hz3, hF⟩ := bindE hF
  refine Or.inr ⟨Sum.elim (fun z3a => [(0, ⟨[(0, .dat (.sl (.int .i64)) a), (1, .dat (.sl (.int .i64)) b)], [], 0⟩)]) (fun z3b => [(1, ⟨[(4, .raw false [(.c (.slice none 0 0))]), (5, .dat (.int .i64) (1 : Int))], [], 0⟩)]) z3, ?_, ?_⟩
  · have hF := hz3
    clear hz3
    unfold f141_j1 at hF
    refine Or.inl ?_
    obtain ⟨r4, hr4, hF⟩ := bindE hF
    refine Or.inl (And.intro f72_in (callV0 (callI C72 a r4 [] false C72_holds hr4 rfl rfl ?_)))
    refine (And.intro rfl (And.intro (fun h => nomatch h) (And.intro rfl (And.intro rfl (And.intro trivial (And.intro trivial ?_))))))
    refine condN hF (fun hF => ?_) (fun hF => ?_)
    · refine gdYF ?_
      obtain ⟨r5, hr5, hF⟩ := bindE hF
      refine Or.inl (And.intro f72_in (callV0 (callI C72 b r5 [] false C72_holds hr5 rfl rfl ?_)))
      refine (And.intro rfl (And.intro (fun h => nomatch h) (And.intro rfl (And.intro rfl (And.intro trivial (And.intro trivial ?_))))))
      refine gdYF ?_
      refine condF ?_
      refine condI hF (fun hF => ?_) (fun hF => ?_)
      · refine Or.inl ?_
        have hz := someE hF
        subst hz
        refine Exists.intro [] (Exists.intro [] (Exists.intro [] (Exists.intro [] (Exists.intro [] (And.intro rfl (And.intro rfl (And.intro (And.intro rfl trivial) trivial)))))))
      · have hz := someE hF
        subst hz
        refine Exists.intro [] (Exists.intro [] (Exists.intro [] (Exists.intro [] (Exists.intro [] (And.intro rfl (And.intro rfl (And.intro rfl (And.intro trivial trivial))))))))
    · refine gdNF ?_
      refine gdNF ?_
      refine condT ?_
      refine condT ?_
      refine Or.inl ?_
      have hz := someE hF
      subst hz
      refine Exists.intro [] (Exists.intro [] (Exists.intro [] (Exists.intro [] (Exists.intro [] (And.intro rfl (And.intro rfl (And.intro (And.intro rfl trivial) trivial)))))))
  · rcases z3 with z3a | z3b
    · dsimp only [sumF] at hF
      refine And.intro ?_ trivial
      refine Or.inl ?_
      refine guardI hF (fun hF => ?_)
      refine Or.inl ?_
      refine Or.inl ?_
      obtain ⟨z12, hz12, hF⟩ := bindE hF
      refine loopI (Int × (List Int)) (Sum Unit (List Int)) (fun x => ⟨[(0, .dat (.sl (.int .i64)) a), (1, .dat (.sl (.int .i64)) b), (6, .raw false [(.osl 0)]), (25, .dat (.int .i64) (List.length (List.replicate (Int.toNat (if (List.length b : Int) > (List.length a : Int) then (List.length b : Int) else (List.length a : Int))) (0 : Int)) : Int)), (26, .dat (.int .i64) x.1)], [(0, .arr 3 (.int .i64) x.2)], 1⟩) (fun z => Sum.elim (fun za => [(1, ⟨[(4, .raw false [(.c (.slice none 0 0))]), (5, .dat (.int .i64) (4 : Int))], [], 0⟩)]) (fun zb => [(2, ⟨[(6, .raw false [(.osl 0)])], [(0, .arr 3 (.int .i64) zb)], 1⟩)]) z) (loopF (fun go x => f141_l4 a b go x.1 x.2)) fuelN ((0 : Int), (List.replicate (Int.toNat (if (List.length b : Int) > (List.length a : Int) then (List.length b : Int) else (List.length a : Int))) (0 : Int))) z12 (And.intro hz12 (And.intro (Exists.intro [] (Exists.intro [] (Exists.intro [] (Exists.intro [] (Exists.intro [(0, some 0)] (And.intro rfl (And.intro rfl (And.intro rfl (And.intro rfl (And.intro rfl (And.intro (And.intro rfl trivial) (And.intro rfl trivial)))))))))))) (And.intro (fun _ _ h => loopZ h) (And.intro (fun m => curI (fun v26 => fun l0 z hF => ?_)) ?_))))
      · have hF : f141_l4 a b (loopF (fun go x => f141_l4 a b go x.1 x.2) m) v26 l0 = some z := hF
        unfold f141_l4 at hF
        refine Or.inl ?_
        refine Or.inl ?_
        refine condI hF (fun hF => ?_) (fun hF => ?_)
        · refine Or.inl ?_
          refine Or.inl ?_
          refine Or.inl ?_
          obtain ⟨r13, hr13, hF⟩ := bindE hF
          refine Or.inl (And.intro f180_in (callV0 (callI C180 (a, v26) r13 [] false C180_holds hr13 rfl rfl ?_)))
          refine (And.intro rfl (And.intro rfl (And.intro (fun h => nomatch h) (And.intro rfl (And.intro rfl (And.intro trivial (And.intro trivial ?_)))))))
          obtain ⟨r14, hr14, hF⟩ := bindE hF
          refine Or.inl (And.intro f180_in (callV0 (callI C180 (b, v26) r14 [] false C180_holds hr14 rfl rfl ?_)))
          refine (And.intro rfl (And.intro rfl (And.intro (fun h => nomatch h) (And.intro rfl (And.intro rfl (And.intro trivial (And.intro trivial ?_)))))))
          obtain ⟨z15, hz15, hF⟩ := bindE hF
          refine Or.inr ⟨Sum.elim (fun z15a => [(0, ⟨[(0, .dat (.sl (.int .i64)) a), (1, .dat (.sl (.int .i64)) b), (6, .raw false [(.osl 0)]), (7, .dat (.int .i64) v26), (8, .dat (.int .i64) r13), (9, .dat (.int .i64) r14), (25, .dat (.int .i64) (List.length (List.replicate (Int.toNat (if (List.length b : Int) > (List.length a : Int) then (List.length b : Int) else (List.length a : Int))) (0 : Int)) : Int)), (26, .dat (.int .i64) v26)], [(0, .arr 3 (.int .i64) l0)], 1⟩)]) (fun z15b => [(1, ⟨[(4, .raw false [(.c (.slice none 0 0))]), (5, .dat (.int .i64) (4 : Int))], [], 0⟩)]) z15, ?_, ?_⟩
          · have hF := hz15
            clear hz15
            unfold f141_j5 at hF
            refine Or.inl ?_
            refine condI hF (fun hF => ?_) (fun hF => ?_)
            · refine gdYT ?_
              refine condT ?_
              refine condI hF (fun hF => ?_) (fun hF => ?_)
              · refine gdYT ?_
                refine condT ?_
                refine condI hF (fun hF => ?_) (fun hF => ?_)
                · refine Or.inl ?_
                  have hz := someE hF
                  subst hz
                  refine Exists.intro [] (Exists.intro [] (Exists.intro [] (Exists.intro [] (Exists.intro [] (And.intro rfl (And.intro rfl (And.intro (And.intro rfl trivial) trivial)))))))
                · have hz := someE hF
                  subst hz
                  refine Exists.intro [] (Exists.intro [] (Exists.intro [] (Exists.intro [] (Exists.intro [(0, some 0)] (And.intro rfl (And.intro rfl (And.intro rfl (And.intro rfl (And.intro rfl (And.intro rfl (And.intro rfl (And.intro rfl (And.intro (And.intro rfl trivial) (And.intro rfl trivial))))))))))))))
              · refine gdNT ?_
                refine condF ?_
                refine condF ?_
                have hz := someE hF
                subst hz
                refine Exists.intro [] (Exists.intro [] (Exists.intro [] (Exists.intro [] (Exists.intro [(0, some 0)] (And.intro rfl (And.intro rfl (And.intro rfl (And.intro rfl (And.intro rfl (And.intro rfl (And.intro rfl (And.intro rfl (And.intro (And.intro rfl trivial) (And.intro rfl trivial))))))))))))))
            · refine gdNT ?_
              refine condF ?_
              refine gdNT ?_
              refine gdNT ?_
              refine condF ?_
              refine condF ?_
              have hz := someE hF
              subst hz
              refine Exists.intro [] (Exists.intro [] (Exists.intro [] (Exists.intro [] (Exists.intro [(0, some 0)] (And.intro rfl (And.intro rfl (And.intro rfl (And.intro rfl (And.intro rfl (And.intro rfl (And.intro rfl (And.intro rfl (And.intro (And.intro rfl trivial) (And.intro rfl trivial))))))))))))))
          · rcases z15 with z15a | z15b
            · dsimp only [sumF] at hF
              refine And.intro ?_ trivial
              refine guardI hF (fun hF => ?_)
              refine Or.inl ?_
              refine Exists.intro ((IntKind.i64.wrap (v26 + (1 : Int))), (List.set l0 (Int.toNat (IntKind.i64.wrap ((IntKind.i64.wrap ((List.length l0 : Int) - (1 : Int))) - v26))) (if r14 > r13 then r14 else r13))) (And.intro hF (Exists.intro [] (Exists.intro [] (Exists.intro [] (Exists.intro [] (Exists.intro [(0, some 0)] (And.intro rfl (And.intro rfl (And.intro rfl (And.intro rfl (And.intro rfl (And.intro (And.intro rfl trivial) (And.intro rfl trivial)))))))))))))
            · dsimp only [sumF] at hF
              refine And.intro ?_ trivial
              have hz := someE hF
              subst hz
              refine Exists.intro [] (Exists.intro [] (Exists.intro [] (Exists.intro [] (Exists.intro [] (And.intro rfl (And.intro rfl (And.intro (And.intro rfl trivial) trivial)))))))
        · have hz := someE hF
          subst hz
          refine Exists.intro [] (Exists.intro [] (Exists.intro [] (Exists.intro [] (Exists.intro [(0, some 0)] (And.intro rfl (And.intro (And.intro rfl trivial) (And.intro rfl trivial)))))))
      · rcases z12 with z12a | z12b
        · dsimp only [sumF] at hF
          refine And.intro ?_ trivial
          have hy := someE hF
          subst hy
          refine And.intro rfl (Exists.intro [] (Exists.intro [] (Exists.intro [] (Exists.intro [] (Exists.intro [(0, none)] (And.intro rfl (And.intro rfl (And.intro (And.intro rfl trivial) (And.intro rfl trivial)))))))))
        · dsimp only [sumF] at hF
          refine And.intro ?_ trivial
          refine Or.inl ?_
          refine Or.inl ?_
          obtain ⟨r16, hr16, hF⟩ := bindE hF
          refine Or.inl (And.intro f72_in (callV0 (callI C72 z12b r16 [] true C72_holds hr16 rfl rfl ?_)))
          refine (And.intro rfl (And.intro (fun _ => rfl) (And.intro rfl (And.intro rfl (And.intro trivial (And.intro trivial ?_))))))
          refine condI hF (fun hF => ?_) (fun hF => ?_)
          · refine Or.inl ?_
            have hy := someE hF
            subst hy
            refine And.intro rfl (Exists.intro [] (Exists.intro [] (Exists.intro [] (Exists.intro [] (Exists.intro [(0, none)] (And.intro rfl (And.intro rfl (And.intro (And.intro rfl trivial) (And.intro rfl trivial)))))))))
          · refine Or.inl ?_
            have hy := someE hF
            subst hy
            refine And.intro rfl (Exists.intro [] (Exists.intro [] (Exists.intro [] (Exists.intro [] (Exists.intro [(0, some 0)] (And.intro rfl (And.intro rfl (And.intro (And.intro rfl trivial) (And.intro rfl trivial)))))))))
    · dsimp only [sumF] at hF
      refine And.intro ?_ trivial
      have hy := someE hF
      subst hy
      refine And.intro rfl (Exists.intro [] (Exists.intro [] (Exists.intro [] (Exists.intro [] (Exists.intro [(0, none)] (And.intro rfl (And.intro rfl (And.intro (And.intro rfl trivial) (And.intro rfl trivial)))))))))
theorem C141_holds : C141.Holds Tryz.prog 141 := holds_of_vc tab_ok mixed (fn := Tryz.f141) (by kernel_rfl) rfl C141 (fun x y hF => C141_vc x.1 x.2 y hF)
theorem f141_in : ∃ fn, Tryz.prog.funcs[141]? = some fn ∧ fn.body.isSome = true ∧ (fn.name == "runtime.NumGoroutine") = false := ⟨Tryz.f141, by kernel_rfl, by kernel_rfl, by kernel_rfl⟩
end Go.Proofs
namespace Go.Proofs
open Go.AM
-- math/bits.Mul64
def f95 (x_ : Int) (y_ : Int) : Option (Int × Int) :=
  some ((IntKind.u64.wrap ((IntKind.u64.wrap ((IntKind.u64.wrap ((Int.fdiv x_ (2 ^ min (Int.toNat (32 : Int)) (IntKind.bits IntKind.u64))) * (Int.fdiv y_ (2 ^ min (Int.toNat (32 : Int)) (IntKind.bits IntKind.u64))))) + (Int.fdiv (IntKind.u64.wrap ((IntKind.u64.wrap ((Int.fdiv x_ (2 ^ min (Int.toNat (32 : Int)) (IntKind.bits IntKind.u64))) * (bitsOf IntKind.u64 (fun p q => p &&& q) y_ (4294967295 : Int)))) + (Int.fdiv (IntKind.u64.wrap ((bitsOf IntKind.u64 (fun p q => p &&& q) x_ (4294967295 : Int)) * (bitsOf IntKind.u64 (fun p q => p &&& q) y_ (4294967295 : Int)))) (2 ^ min (Int.toNat (32 : Int)) (IntKind.bits IntKind.u64))))) (2 ^ min (Int.toNat (32 : Int)) (IntKind.bits IntKind.u64))))) + (Int.fdiv (IntKind.u64.wrap ((bitsOf IntKind.u64 (fun p q => p &&& q) (IntKind.u64.wrap ((IntKind.u64.wrap ((Int.fdiv x_ (2 ^ min (Int.toNat (32 : Int)) (IntKind.bits IntKind.u64))) * (bitsOf IntKind.u64 (fun p q => p &&& q) y_ (4294967295 : Int)))) + (Int.fdiv (IntKind.u64.wrap ((bitsOf IntKind.u64 (fun p q => p &&& q) x_ (4294967295 : Int)) * (bitsOf IntKind.u64 (fun p q => p &&& q) y_ (4294967295 : Int)))) (2 ^ min (Int.toNat (32 : Int)) (IntKind.bits IntKind.u64))))) (4294967295 : Int)) + (IntKind.u64.wrap ((bitsOf IntKind.u64 (fun p q => p &&& q) x_ (4294967295 : Int)) * (Int.fdiv y_ (2 ^ min (Int.toNat (32 : Int)) (IntKind.bits IntKind.u64))))))) (2 ^ min (Int.toNat (32 : Int)) (IntKind.bits IntKind.u64))))), (IntKind.u64.wrap (x_ * y_)))
def C95 : Con where
  X := Int × Int
  Y := Int × Int
  e := 0
  args x := [.dat (.int .u64) x.1, .dat (.int .u64) x.2]
  hin x := []
  F x := f95 x.1 x.2
  ret y := [.dat (.int .u64) y.1, .dat (.int .u64) y.2]
  hout y := []
  nout := 0
theorem C95_vc (x_ : Int) (y_ : Int) (y : Int × Int) (hF : f95 x_ y_ = some y) : vc Tryz.prog tab Tryz.f95.ntmps 0 (match Tryz.f95.body with | some c => c | none => .skip) (retK tab C95 Tryz.f95.results.toList y) (C95.shIn (x_, y_)).st := by
  unfold f95 at hF
  refine Or.inl ?_
  refine Or.inl ?_
  refine Or.inl ?_
  refine And.intro (by decide) ?_
  refine Or.inl ?_
  refine Or.inl ?_
  refine And.intro (by decide) ?_
  refine Or.inl ?_
  refine Or.inl ?_
  refine And.intro (by decide) ?_
  refine Or.inl ?_
  refine Or.inl ?_
  refine And.intro (by decide) ?_
  refine Or.inl ?_
  refine Or.inl ?_
  refine And.intro (by decide) ?_
  refine Or.inl ?_
  have hy := someE hF
  subst hy
  refine And.intro rfl (Exists.intro [] (Exists.intro [] (Exists.intro [] (Exists.intro [] (Exists.intro [] (And.intro rfl (And.intro rfl (And.intro rfl (And.intro trivial trivial)))))))))
theorem C95_holds : C95.Holds Tryz.prog 95 := holds_of_vc tab_ok mixed (fn := Tryz.f95) (by kernel_rfl) rfl C95 (fun x y hF => C95_vc x.1 x.2 y hF)
theorem f95_in : ∃ fn, Tryz.prog.funcs[95]? = some fn ∧ fn.body.isSome = true ∧ (fn.name == "runtime.NumGoroutine") = false := ⟨Tryz.f95, by kernel_rfl, by kernel_rfl, by kernel_rfl⟩
end Go.Proofs
namespace Go.Proofs
open Go.AM
-- math/bits.Mul
def f106 (x_ : Int) (y_ : Int) : Option (Int × Int) :=
  bindF (f95 x_ y_) fun r1 =>
  some (r1.1, r1.2)
def C106 : Con where
  X := Int × Int
  Y := Int × Int
  e := 0
  args x := [.dat (.int .u64) x.1, .dat (.int .u64) x.2]
  hin x := []
  F x := f106 x.1 x.2
  ret y := [.dat (.int .u64) y.1, .dat (.int .u64) y.2]
  hout y := []
  nout := 0
theorem C106_vc (x_ : Int) (y_ : Int) (y : Int × Int) (hF : f106 x_ y_ = some y) : vc Tryz.prog tab Tryz.f106.ntmps 0 (match Tryz.f106.body with | some c => c | none => .skip) (retK tab C106 Tryz.f106.results.toList y) (C106.shIn (x_, y_)).st := by
  unfold f106 at hF
  refine Or.inl ?_
  refine Or.inl ?_
  refine condF ?_
  refine Or.inl ?_
  obtain ⟨r1, hr1, hF⟩ := bindE hF
  refine Or.inl (And.intro f95_in (callV0 (callI C95 (x_, y_) r1 [] false C95_holds hr1 rfl rfl ?_)))
  refine (And.intro rfl (And.intro rfl (And.intro (fun h => nomatch h) (And.intro rfl (And.intro rfl (And.intro trivial (And.intro trivial ?_)))))))
  refine Or.inl ?_
  have hy := someE hF
  subst hy
  refine And.intro rfl (Exists.intro [] (Exists.intro [] (Exists.intro [] (Exists.intro [] (Exists.intro [] (And.intro rfl (And.intro rfl (And.intro rfl (And.intro trivial trivial)))))))))
theorem C106_holds : C106.Holds Tryz.prog 106 := holds_of_vc tab_ok mixed (fn := Tryz.f106) (by kernel_rfl) rfl C106 (fun x y hF => C106_vc x.1 x.2 y hF)
theorem f106_in : ∃ fn, Tryz.prog.funcs[106]? = some fn ∧ fn.body.isSome = true ∧ (fn.name == "runtime.NumGoroutine") = false := ⟨Tryz.f106, by kernel_rfl, by kernel_rfl, by kernel_rfl⟩
end Go.Proofs
namespace Go.Proofs
open Go.AM
-- slices.Repeat[[]carousel/api.Fix,carousel/api.Fix]
def f81_j1 (r1 : Int × Int) : Option Unit :=
  bif (decide (r1.1 > (0 : Int))) then
    none
  else
    bif (decide (r1.2 > (9223372036854775807 : Int))) then
      none
    else
      some ()
def f81_l2 (go : (Int × (List Int)) → Option (List Int)) (n : Int) (l0 : List Int) : Option (List Int) :=
  bif (decide (n < (List.length l0 : Int))) then
    guardF (0 ≤ n ∧ n ≤ (List.length l0 : Int)) <|
    guardF (0 ≤ n ∧ n ≤ (List.length l0 : Int)) <|
    go ((IntKind.i64.wrap (n + (List.length (List.take (Int.toNat (List.length l0 : Int) - Int.toNat n) (List.drop (Int.toNat (0 : Int)) (List.take (Int.toNat n) l0))) : Int))), (over l0 n (List.take (Int.toNat (List.length l0 : Int) - Int.toNat n) (List.drop (Int.toNat (0 : Int)) (List.take (Int.toNat n) l0)))))
  else
    some l0
def f81 (x_ : List Int) (count : Int) : Option (List Int) :=
  bif (decide (count < (0 : Int))) then
    none
  else
    bindF (f106 (IntKind.u64.wrap (List.length x_ : Int)) (IntKind.u64.wrap count)) fun r1 =>
    bindF (f81_j1 r1) fun z2 =>
    guardF (0 ≤ (IntKind.i64.wrap r1.2) ∧ (IntKind.i64.wrap r1.2) ≤ (IntKind.i64.wrap r1.2) ∧ Int.toNat (IntKind.i64.wrap r1.2) * 8 ≤ 140737488355328) <|
    bindF (loopF (fun go x => f81_l2 go x.1 x.2) fuelN ((List.length (List.take (Int.toNat (List.length (List.replicate (Int.toNat (IntKind.i64.wrap r1.2)) (0 : Int)) : Int) - Int.toNat (0 : Int)) x_) : Int), (over (List.replicate (Int.toNat (IntKind.i64.wrap r1.2)) (0 : Int)) (0 : Int) (List.take (Int.toNat (List.length (List.replicate (Int.toNat (IntKind.i64.wrap r1.2)) (0 : Int)) : Int) - Int.toNat (0 : Int)) x_)))) fun z3 =>
    some z3
def C81 : Con where
  X := (List Int) × Int
  Y := List Int
  e := 0
  args x := [.dat (.sl (.int .i64)) x.1, .dat (.int .i64) x.2]
  hin x := []
  F x := f81 x.1 x.2
  ret y := [.raw false [(.osl 0)]]
  hout y := [(0, .arr 23 (.int .i64) y)]
  nout := 1
theorem C81_vc (x_ : List Int) (count : Int) (y : List Int) (hF : f81 x_ count = some y) : vc Tryz.prog tab Tryz.f81.ntmps 0 (match Tryz.f81.body with | some c => c | none => .skip) (retK tab C81 Tryz.f81.results.toList y) (C81.shIn (x_, count)).st := by
  unfold f81 at hF
  refine Or.inl ?_
  refine Or.inl ?_
  refine Or.inl ?_
  refine condI hF (fun hF => ?_) (fun hF => ?_)
  · exact nomatch hF
  · refine Or.inl ?_
    obtain ⟨r1, hr1, hF⟩ := bindE hF
    refine Or.inl (And.intro f106_in (callV0 (callI C106 ((IntKind.u64.wrap (List.length x_ : Int)), (IntKind.u64.wrap count)) r1 [] false C106_holds hr1 rfl rfl ?_)))
    refine (And.intro rfl (And.intro rfl (And.intro (fun h => nomatch h) (And.intro rfl (And.intro rfl (And.intro trivial (And.intro trivial ?_)))))))
    obtain ⟨z2, hz2, hF⟩ := bindE hF
    refine Or.inr ⟨[(0, ⟨[(0, .dat (.sl (.int .i64)) x_), (6, .dat (.int .u64) r1.2)], [], 0⟩)], ?_, ?_⟩
    · have hF := hz2
      clear hz2
      unfold f81_j1 at hF
      refine Or.inl ?_
      refine condN hF (fun hF => ?_) (fun hF => ?_)
      · refine gdYF ?_
        refine condF ?_
        refine condI hF (fun hF => ?_) (fun hF => ?_)
        · exact nomatch hF
        · have hz := someE hF
          subst hz
          refine Exists.intro [] (Exists.intro [] (Exists.intro [] (Exists.intro [] (Exists.intro [] (And.intro rfl (And.intro rfl (And.intro rfl (And.intro trivial trivial))))))))
      · refine gdNF ?_
        refine condT ?_
        refine condT ?_
        exact nomatch hF
    · refine And.intro ?_ trivial
      refine Or.inl ?_
      refine guardI hF (fun hF => ?_)
      refine Or.inl ?_
      refine Or.inl ?_
      obtain ⟨z3, hz3, hF⟩ := bindE hF
      refine loopI (Int × (List Int)) (List Int) (fun x => ⟨[(7, .raw false [(.osl 0)]), (8, .dat (.int .i64) x.1)], [(0, .arr 23 (.int .i64) x.2)], 1⟩) (fun z => [(2, ⟨[(7, .raw false [(.osl 0)])], [(0, .arr 23 (.int .i64) z)], 1⟩)]) (loopF (fun go x => f81_l2 go x.1 x.2)) fuelN ((List.length (List.take (Int.toNat (List.length (List.replicate (Int.toNat (IntKind.i64.wrap r1.2)) (0 : Int)) : Int) - Int.toNat (0 : Int)) x_) : Int), (over (List.replicate (Int.toNat (IntKind.i64.wrap r1.2)) (0 : Int)) (0 : Int) (List.take (Int.toNat (List.length (List.replicate (Int.toNat (IntKind.i64.wrap r1.2)) (0 : Int)) : Int) - Int.toNat (0 : Int)) x_))) z3 (And.intro hz3 (And.intro (Exists.intro [] (Exists.intro [] (Exists.intro [] (Exists.intro [] (Exists.intro [(0, some 0)] (And.intro rfl (And.intro rfl (And.intro (And.intro rfl trivial) (And.intro rfl trivial))))))))) (And.intro (fun _ _ h => loopZ h) (And.intro (fun m => curI (fun n => fun l0 z hF => ?_)) ?_))))
      · have hF : f81_l2 (loopF (fun go x => f81_l2 go x.1 x.2) m) n l0 = some z := hF
        unfold f81_l2 at hF
        refine Or.inl ?_
        refine Or.inl ?_
        refine condI hF (fun hF => ?_) (fun hF => ?_)
        · refine Exists.intro (.take 0 (.take 1 (.take 2 (.take 3 (.take 4 (.take 5 (.take 6 (.alt 7 (.take 8 (.take 9 .done)) .done)))))))) (Exists.intro [] (Exists.intro [] (And.intro rfl ?_)))
          refine guardI hF (fun hF => ?_)
          refine guardI hF (fun hF => ?_)
          refine And.intro trivial ?_
          refine Exists.intro ((IntKind.i64.wrap (n + (List.length (List.take (Int.toNat (List.length l0 : Int) - Int.toNat n) (List.drop (Int.toNat (0 : Int)) (List.take (Int.toNat n) l0))) : Int))), (over l0 n (List.take (Int.toNat (List.length l0 : Int) - Int.toNat n) (List.drop (Int.toNat (0 : Int)) (List.take (Int.toNat n) l0))))) (And.intro hF (Exists.intro [] (Exists.intro [] (Exists.intro [] (Exists.intro [] (Exists.intro [(0, some 0)] (And.intro rfl (And.intro rfl (And.intro (And.intro rfl trivial) (And.intro rfl trivial))))))))))
        · have hz := someE hF
          subst hz
          refine Exists.intro [] (Exists.intro [] (Exists.intro [] (Exists.intro [] (Exists.intro [(0, some 0)] (And.intro rfl (And.intro (And.intro rfl trivial) (And.intro rfl trivial)))))))
      · refine And.intro ?_ trivial
        refine Or.inl ?_
        have hy := someE hF
        subst hy
        refine And.intro rfl (Exists.intro [] (Exists.intro [] (Exists.intro [] (Exists.intro [] (Exists.intro [(0, some 0)] (And.intro rfl (And.intro (And.intro rfl trivial) (And.intro rfl trivial))))))))
theorem C81_holds : C81.Holds Tryz.prog 81 := holds_of_vc tab_ok mixed (fn := Tryz.f81) (by kernel_rfl) rfl C81 (fun x y hF => C81_vc x.1 x.2 y hF)
theorem f81_in : ∃ fn, Tryz.prog.funcs[81]? = some fn ∧ fn.body.isSome = true ∧ (fn.name == "runtime.NumGoroutine") = false := ⟨Tryz.f81, by kernel_rfl, by kernel_rfl, by kernel_rfl⟩
end Go.Proofs
namespace Go.Proofs
open Go.AM
-- carousel/tens.New
def f52 (d : List Int) (v : Int) : Option (Int × (List Int) × (List Int)) :=
  bindF (f72 d) fun r1 =>
  bif (!r1) then
    some ((1 : Int), [], [])
  else
    bindF (f82 d) fun r2 =>
    bindF (f83 d) fun r3 =>
    bindF (f81 ([v]) r3) fun r4 =>
    some ((0 : Int), r2, r4)
def C52 : Con where
  X := (List Int) × Int
  Y := Int × (List Int) × (List Int)
  e := 0
  args x := [.dat (.sl (.int .i64)) x.1, .dat (.int .i64) x.2]
  hin x := []
  F x := f52 x.1 x.2
  ret y := [.raw true [(.osl 0), (.osl 1)], .dat (.int .i64) y.1]
  hout y := [(0, .arr 3 (.int .i64) y.2.1), (1, .arr 23 (.int .i64) y.2.2)]
  nout := 2
theorem C52_vc (d : List Int) (v : Int) (y : Int × (List Int) × (List Int)) (hF : f52 d v = some y) : vc Tryz.prog tab Tryz.f52.ntmps 0 (match Tryz.f52.body with | some c => c | none => .skip) (retK tab C52 Tryz.f52.results.toList y) (C52.shIn (d, v)).st := by
  unfold f52 at hF
  refine Or.inl ?_
  refine Or.inl ?_
  refine Or.inl ?_
  obtain ⟨r1, hr1, hF⟩ := bindE hF
  refine Or.inl (And.intro f72_in (callV0 (callI C72 d r1 [] false C72_holds hr1 rfl rfl ?_)))
  refine (And.intro rfl (And.intro (fun h => nomatch h) (And.intro rfl (And.intro rfl (And.intro trivial (And.intro trivial ?_))))))
  refine condI hF (fun hF => ?_) (fun hF => ?_)
  · refine Or.inl ?_
    refine Or.inl ?_
    have hy := someE hF
    subst hy
    refine And.intro rfl (Exists.intro [] (Exists.intro [] (Exists.intro [] (Exists.intro [] (Exists.intro [(0, none), (1, none)] (And.intro rfl (And.intro rfl (And.intro (And.intro rfl trivial) (And.intro rfl (And.intro rfl trivial))))))))))
  · refine Or.inl ?_
    obtain ⟨r2, hr2, hF⟩ := bindE hF
    refine Or.inl (And.intro f82_in (callV0 (callI C82 d r2 [] false C82_holds hr2 rfl rfl ?_)))
    refine (And.intro rfl (And.intro (fun h => nomatch h) (And.intro rfl (And.intro rfl (And.intro trivial (And.intro trivial ?_))))))
    refine Or.inl ?_
    obtain ⟨r3, hr3, hF⟩ := bindE hF
    refine Or.inl (And.intro f83_in (callV0 (callI C83 d r3 [] false C83_holds hr3 rfl rfl ?_)))
    refine (And.intro rfl (And.intro (fun h => nomatch h) (And.intro rfl (And.intro rfl (And.intro trivial (And.intro trivial ?_))))))
    obtain ⟨r4, hr4, hF⟩ := bindE hF
    refine Or.inl (And.intro f81_in (callV0 (callI C81 ([v], r3) r4 [] true C81_holds hr4 rfl rfl ?_)))
    refine (And.intro rfl (And.intro rfl (And.intro (fun _ => rfl) (And.intro rfl (And.intro rfl (And.intro trivial (And.intro trivial ?_)))))))
    refine Or.inl ?_
    have hy := someE hF
    subst hy
    refine And.intro rfl (Exists.intro [] (Exists.intro [] (Exists.intro [] (Exists.intro [] (Exists.intro [(0, some 1), (1, some 3)] (And.intro rfl (And.intro rfl (And.intro (And.intro rfl trivial) (And.intro rfl (And.intro rfl trivial))))))))))
theorem C52_holds : C52.Holds Tryz.prog 52 := holds_of_vc tab_ok mixed (fn := Tryz.f52) (by kernel_rfl) rfl C52 (fun x y hF => C52_vc x.1 x.2 y hF)
theorem f52_in : ∃ fn, Tryz.prog.funcs[52]? = some fn ∧ fn.body.isSome = true ∧ (fn.name == "runtime.NumGoroutine") = false := ⟨Tryz.f52, by kernel_rfl, by kernel_rfl, by kernel_rfl⟩
end Go.Proofs
namespace Go.Proofs
open Go.AM
-- carousel/shape.Strides
def f181_l1 (d : List Int) (go : (Int × Int × (List Int)) → Option (List Int)) (n : Int) (i : Int) (l0 : List Int) : Option (List Int) :=
  bif (decide (i ≥ (0 : Int))) then
    guardF (0 ≤ i ∧ i < (List.length l0 : Int)) <|
    guardF (0 ≤ i ∧ i < (List.length d : Int)) <|
    go ((IntKind.i64.wrap (n * (rd (0 : Int) d i))), (IntKind.i64.wrap (i - (1 : Int))), (List.set l0 (Int.toNat i) n))
  else
    some l0
def f181 (d : List Int) : Option (List Int) :=
  bindF (f72 d) fun r1 =>
  bif (!r1) then
    some ([])
  else
    guardF (0 ≤ (List.length d : Int) ∧ (List.length d : Int) ≤ (List.length d : Int) ∧ Int.toNat (List.length d : Int) * 8 ≤ 140737488355328) <|
    bindF (loopF (fun go x => f181_l1 d go x.1 x.2.1 x.2.2) fuelN ((1 : Int), (IntKind.i64.wrap ((List.length d : Int) - (1 : Int))), (List.replicate (Int.toNat (List.length d : Int)) (0 : Int)))) fun z2 =>
    some z2
def C181 : Con where
  X := List Int
  Y := List Int
  e := 0
  args x := [.dat (.sl (.int .i64)) x]
  hin x := []
  F x := f181 x
  ret y := [.raw false [(.osl 0)]]
  hout y := [(0, .arr 3 (.int .i64) y)]
  nout := 1
theorem C181_vc (d : List Int) (y : List Int) (hF : f181 d = some y) : vc Tryz.prog tab Tryz.f181.ntmps 0 (match Tryz.f181.body with | some c => c | none => .skip) (retK tab C181 Tryz.f181.results.toList y) (C181.shIn d).st := by
  unfold f181 at hF
  refine Or.inl ?_
  refine Or.inl ?_
  refine Or.inl ?_
  obtain ⟨r1, hr1, hF⟩ := bindE hF
  refine Or.inl (And.intro f72_in (callV0 (callI C72 d r1 [] false C72_holds hr1 rfl rfl ?_)))
  refine (And.intro rfl (And.intro (fun h => nomatch h) (And.intro rfl (And.intro rfl (And.intro trivial (And.intro trivial ?_))))))
  refine condI hF (fun hF => ?_) (fun hF => ?_)
  · refine Or.inl ?_
    have hy := someE hF
    subst hy
    refine And.intro rfl (Exists.intro [] (Exists.intro [] (Exists.intro [] (Exists.intro [] (Exists.intro [(0, none)] (And.intro rfl (And.intro (And.intro rfl trivial) (And.intro rfl trivial))))))))
  · refine Or.inl ?_
    refine guardI hF (fun hF => ?_)
    refine Or.inl ?_
    refine Or.inl ?_
    refine Or.inl ?_
    obtain ⟨z2, hz2, hF⟩ := bindE hF
    refine loopI (Int × Int × (List Int)) (List Int) (fun x => ⟨[(0, .dat (.sl (.int .i64)) d), (3, .raw false [(.osl 0)]), (4, .dat (.int .i64) x.1), (5, .dat (.int .i64) x.2.1)], [(0, .arr 3 (.int .i64) x.2.2)], 1⟩) (fun z => [(2, ⟨[(3, .raw false [(.osl 0)])], [(0, .arr 3 (.int .i64) z)], 1⟩)]) (loopF (fun go x => f181_l1 d go x.1 x.2.1 x.2.2)) fuelN ((1 : Int), (IntKind.i64.wrap ((List.length d : Int) - (1 : Int))), (List.replicate (Int.toNat (List.length d : Int)) (0 : Int))) z2 (And.intro hz2 (And.intro (Exists.intro [] (Exists.intro [] (Exists.intro [] (Exists.intro [] (Exists.intro [(0, some 0)] (And.intro rfl (And.intro rfl (And.intro rfl (And.intro rfl (And.intro (And.intro rfl trivial) (And.intro rfl trivial))))))))))) (And.intro (fun _ _ h => loopZ h) (And.intro (fun m => curI (fun n => curI (fun i => fun l0 z hF => ?_))) ?_))))
    · have hF : f181_l1 d (loopF (fun go x => f181_l1 d go x.1 x.2.1 x.2.2) m) n i l0 = some z := hF
      unfold f181_l1 at hF
      refine Or.inl ?_
      refine Or.inl ?_
      refine condI hF (fun hF => ?_) (fun hF => ?_)
      · refine Or.inl ?_
        refine Or.inl ?_
        refine guardI hF (fun hF => ?_)
        refine Or.inl ?_
        refine guardI hF (fun hF => ?_)
        refine Exists.intro ((IntKind.i64.wrap (n * (rd (0 : Int) d i))), (IntKind.i64.wrap (i - (1 : Int))), (List.set l0 (Int.toNat i) n)) (And.intro hF (Exists.intro [] (Exists.intro [] (Exists.intro [] (Exists.intro [] (Exists.intro [(0, some 0)] (And.intro rfl (And.intro rfl (And.intro rfl (And.intro rfl (And.intro (And.intro rfl trivial) (And.intro rfl trivial))))))))))))
      · have hz := someE hF
        subst hz
        refine Exists.intro [] (Exists.intro [] (Exists.intro [] (Exists.intro [] (Exists.intro [(0, some 0)] (And.intro rfl (And.intro (And.intro rfl trivial) (And.intro rfl trivial)))))))
    · refine And.intro ?_ trivial
      refine Or.inl ?_
      have hy := someE hF
      subst hy
      refine And.intro rfl (Exists.intro [] (Exists.intro [] (Exists.intro [] (Exists.intro [] (Exists.intro [(0, some 0)] (And.intro rfl (And.intro (And.intro rfl trivial) (And.intro rfl trivial))))))))
theorem C181_holds : C181.Holds Tryz.prog 181 := holds_of_vc tab_ok mixed (fn := Tryz.f181) (by kernel_rfl) rfl C181 (fun x y hF => C181_vc x y hF)
theorem f181_in : ∃ fn, Tryz.prog.funcs[181]? = some fn ∧ fn.body.isSome = true ∧ (fn.name == "runtime.NumGoroutine") = false := ⟨Tryz.f181, by kernel_rfl, by kernel_rfl, by kernel_rfl⟩
end Go.Proofs
namespace Go.Proofs
open Go.AM
-- carousel/shape.Spread
def f142_j13 (d : List Int) (big : List Int) (q11_19 : List Int) (v23 : Int) (rest : Int) (i : Int) (l1_2 : List Int) : Option (List Int) :=
  guardF (0 ≤ (IntKind.i64.wrap (i - (IntKind.i64.wrap ((List.length big : Int) - (List.length d : Int))))) ∧ (IntKind.i64.wrap (i - (IntKind.i64.wrap ((List.length big : Int) - (List.length d : Int))))) < (List.length d : Int)) <|
  bif (decide ((rd (0 : Int) d (IntKind.i64.wrap (i - (IntKind.i64.wrap ((List.length big : Int) - (List.length d : Int)))))) > (1 : Int))) then
    guardF (0 ≤ v23 ∧ v23 < (List.length l1_2 : Int)) <|
    guardF (0 ≤ i ∧ i < (List.length big : Int)) <|
    guardF ((rd (0 : Int) big i) ≠ 0) <|
    guardF (0 ≤ (IntKind.i64.wrap (i - (IntKind.i64.wrap ((List.length big : Int) - (List.length d : Int))))) ∧ (IntKind.i64.wrap (i - (IntKind.i64.wrap ((List.length big : Int) - (List.length d : Int))))) < (List.length q11_19 : Int)) <|
    guardF (0 ≤ v23 ∧ v23 < (List.length l1_2 : Int)) <|
    some (List.set l1_2 (Int.toNat v23) (IntKind.i64.wrap ((rd (0 : Int) l1_2 v23) + (IntKind.i64.wrap ((Int.tmod rest (rd (0 : Int) big i)) * (rd (0 : Int) q11_19 (IntKind.i64.wrap (i - (IntKind.i64.wrap ((List.length big : Int) - (List.length d : Int)))))))))))
  else
    some l1_2
def f142_l12 (d : List Int) (big : List Int) (q11_19 : List Int) (v23 : Int) (go : (Int × Int × (List Int)) → Option (List Int)) (rest : Int) (i : Int) (l1_2 : List Int) : Option (List Int) :=
  bif (decide (i ≥ (IntKind.i64.wrap ((List.length big : Int) - (List.length d : Int))))) then
    bindF (f142_j13 d big q11_19 v23 rest i l1_2) fun z14 =>
    guardF (0 ≤ i ∧ i < (List.length big : Int)) <|
    guardF ((rd (0 : Int) big i) ≠ 0) <|
    go ((IntKind.i64.wrap (Int.tdiv rest (rd (0 : Int) big i))), (IntKind.i64.wrap (i - (1 : Int))), z14)
  else
    some l1_2
def f142_l9 (d : List Int) (big : List Int) (q11_19 : List Int) (r1 : Int) (go : (Int × (List Int)) → Option (List Int)) (v23 : Int) (l1 : List Int) : Option (List Int) :=
  bif (decide (v23 < (List.length (List.replicate (Int.toNat r1) (0 : Int)) : Int))) then
    bindF (loopF (fun go x => f142_l12 d big q11_19 v23 go x.1 x.2.1 x.2.2) fuelN (v23, (IntKind.i64.wrap ((List.length big : Int) - (1 : Int))), l1)) fun z13 =>
    go ((IntKind.i64.wrap (v23 + (1 : Int))), z13)
  else
    some l1
def f142 (d : List Int) (big : List Int) : Option (List Int) :=
  bindF (f181 d) fun q11_19 =>
  bindF (f83 big) fun r1 =>
  guardF (0 ≤ r1 ∧ r1 ≤ r1 ∧ Int.toNat r1 * 8 ≤ 140737488355328) <|
  bindF (loopF (fun go x => f142_l9 d big q11_19 r1 go x.1 x.2) fuelN ((0 : Int), (List.replicate (Int.toNat r1) (0 : Int)))) fun z10 =>
  some z10
def C142 : Con where
  X := (List Int) × (List Int)
  Y := List Int
  e := 0
  args x := [.dat (.sl (.int .i64)) x.1, .dat (.sl (.int .i64)) x.2]
  hin x := []
  F x := f142 x.1 x.2
  ret y := [.raw false [(.osl 0)]]
  hout y := [(0, .arr 3 (.int .i64) y)]
  nout := 1
theorem C142_vc (d : List Int) (big : List Int) (y : List Int) (hF : f142 d big = some y) : vc Tryz.prog tab Tryz.f142.ntmps 0 (match Tryz.f142.body with | some c => c | none => .skip) (retK tab C142 Tryz.f142.results.toList y) (C142.shIn (d, big)).st := by
  unfold f142 at hF
  refine Or.inl ?_
  refine Or.inl ?_
  obtain ⟨q11_19, hq11_19, hF⟩ := bindE hF
  refine Or.inl (And.intro f181_in (callV0 (callI C181 d q11_19 [] false C181_holds hq11_19 rfl rfl ?_)))
  refine (And.intro rfl (And.intro (fun h => nomatch h) (And.intro rfl (And.intro rfl (And.intro trivial (And.intro trivial ?_))))))
  refine Or.inl ?_
  obtain ⟨r1, hr1, hF⟩ := bindE hF
  refine Or.inl (And.intro f83_in (callV0 (callI C83 big r1 [] false C83_holds hr1 rfl rfl ?_)))
  refine (And.intro rfl (And.intro (fun h => nomatch h) (And.intro rfl (And.intro rfl (And.intro trivial (And.intro trivial ?_))))))
  refine guardI hF (fun hF => ?_)
  refine Or.inl ?_
  refine Or.inl ?_
  obtain ⟨z10, hz10, hF⟩ := bindE hF
  refine loopI (Int × (List Int)) (List Int) (fun x => ⟨[(0, .dat (.sl (.int .i64)) d), (1, .dat (.sl (.int .i64)) big), (5, .raw false [(.osl 0)]), (6, .dat (.int .i64) (IntKind.i64.wrap ((List.length big : Int) - (List.length d : Int)))), (7, .raw false [(.osl 1)]), (22, .dat (.int .i64) (List.length (List.replicate (Int.toNat r1) (0 : Int)) : Int)), (23, .dat (.int .i64) x.1)], [(0, .arr 3 (.int .i64) q11_19), (1, .arr 3 (.int .i64) x.2)], 2⟩) (fun z => [(2, ⟨[(7, .raw false [(.osl 0)])], [(0, .arr 3 (.int .i64) z)], 1⟩)]) (loopF (fun go x => f142_l9 d big q11_19 r1 go x.1 x.2)) fuelN ((0 : Int), (List.replicate (Int.toNat r1) (0 : Int))) z10 (And.intro hz10 (And.intro (Exists.intro [] (Exists.intro [] (Exists.intro [] (Exists.intro [] (Exists.intro [(0, some 0), (1, some 1)] (And.intro rfl (And.intro rfl (And.intro rfl (And.intro rfl (And.intro rfl (And.intro rfl (And.intro (And.intro rfl (And.intro rfl trivial)) (And.intro rfl (And.intro rfl trivial)))))))))))))) (And.intro (fun _ _ h => loopZ h) (And.intro (fun m => curI (fun v23 => fun l1 z hF => ?_)) ?_))))
  · have hF : f142_l9 d big q11_19 r1 (loopF (fun go x => f142_l9 d big q11_19 r1 go x.1 x.2) m) v23 l1 = some z := hF
    unfold f142_l9 at hF
    refine Or.inl ?_
    refine Or.inl ?_
    refine condI hF (fun hF => ?_) (fun hF => ?_)
    · refine Or.inl ?_
      refine Or.inl ?_
      refine Or.inl ?_
      refine Or.inl ?_
      obtain ⟨z13, hz13, hF⟩ := bindE hF
      refine loopI (Int × Int × (List Int)) (List Int) (fun x => ⟨[(0, .dat (.sl (.int .i64)) d), (1, .dat (.sl (.int .i64)) big), (5, .raw false [(.osl 0)]), (6, .dat (.int .i64) (IntKind.i64.wrap ((List.length big : Int) - (List.length d : Int)))), (7, .raw false [(.osl 1)]), (8, .dat (.int .i64) v23), (9, .dat (.int .i64) x.1), (10, .dat (.int .i64) x.2.1), (22, .dat (.int .i64) (List.length (List.replicate (Int.toNat r1) (0 : Int)) : Int)), (23, .dat (.int .i64) v23)], [(0, .arr 3 (.int .i64) q11_19), (1, .arr 3 (.int .i64) x.2.2)], 2⟩) (fun z => [(4, ⟨[(0, .dat (.sl (.int .i64)) d), (1, .dat (.sl (.int .i64)) big), (5, .raw false [(.osl 0)]), (6, .dat (.int .i64) (IntKind.i64.wrap ((List.length big : Int) - (List.length d : Int)))), (7, .raw false [(.osl 1)]), (22, .dat (.int .i64) (List.length (List.replicate (Int.toNat r1) (0 : Int)) : Int)), (23, .dat (.int .i64) v23)], [(0, .arr 3 (.int .i64) q11_19), (1, .arr 3 (.int .i64) z)], 2⟩)]) (loopF (fun go x => f142_l12 d big q11_19 v23 go x.1 x.2.1 x.2.2)) fuelN (v23, (IntKind.i64.wrap ((List.length big : Int) - (1 : Int))), l1) z13 (And.intro hz13 (And.intro (Exists.intro [] (Exists.intro [] (Exists.intro [] (Exists.intro [] (Exists.intro [(0, some 0), (1, some 1)] (And.intro rfl (And.intro rfl (And.intro rfl (And.intro rfl (And.intro rfl (And.intro rfl (And.intro rfl (And.intro rfl (And.intro rfl (And.intro (And.intro rfl (And.intro rfl trivial)) (And.intro rfl (And.intro rfl trivial))))))))))))))))) (And.intro (fun _ _ h => loopZ h) (And.intro (fun m => curI (fun rest => curI (fun i => fun l1_2 z hF => ?_))) ?_))))
      · have hF : f142_l12 d big q11_19 v23 (loopF (fun go x => f142_l12 d big q11_19 v23 go x.1 x.2.1 x.2.2) m) rest i l1_2 = some z := hF
        unfold f142_l12 at hF
        refine Or.inl ?_
        refine Or.inl ?_
        refine condI hF (fun hF => ?_) (fun hF => ?_)
        · refine Or.inl ?_
          obtain ⟨z14, hz14, hF⟩ := bindE hF
          refine Or.inr ⟨[(0, ⟨[(0, .dat (.sl (.int .i64)) d), (1, .dat (.sl (.int .i64)) big), (5, .raw false [(.osl 0)]), (6, .dat (.int .i64) (IntKind.i64.wrap ((List.length big : Int) - (List.length d : Int)))), (7, .raw false [(.osl 1)]), (8, .dat (.int .i64) v23), (9, .dat (.int .i64) rest), (10, .dat (.int .i64) i), (22, .dat (.int .i64) (List.length (List.replicate (Int.toNat r1) (0 : Int)) : Int)), (23, .dat (.int .i64) v23)], [(0, .arr 3 (.int .i64) q11_19), (1, .arr 3 (.int .i64) z14)], 2⟩)], ?_, ?_⟩
          · have hF := hz14
            clear hz14
            unfold f142_j13 at hF
            refine Or.inl ?_
            refine guardI hF (fun hF => ?_)
            refine condI hF (fun hF => ?_) (fun hF => ?_)
            · refine Exists.intro (.take 0 (.take 1 (.take 2 (.take 3 (.take 4 (.take 5 (.take 6 (.take 7 (.take 8 (.take 9 (.take 10 (.take 11 (.take 12 (.take 13 (.take 14 (.take 15 (.take 16 (.take 17 (.take 18 (.alt 19 .done .done)))))))))))))))))))) (Exists.intro [(19, [1])] (Exists.intro [] (And.intro rfl ?_)))
              refine guardI hF (fun hF => ?_)
              refine guardI hF (fun hF => ?_)
              refine guardI hF (fun hF => ?_)
              refine guardI hF (fun hF => ?_)
              refine guardI hF (fun hF => ?_)
              refine And.intro trivial ?_
              refine Or.inl ?_
              have hz := someE hF
              subst hz
              refine Exists.intro [] (Exists.intro [] (Exists.intro [] (Exists.intro [] (Exists.intro [(0, some 0), (1, some 1)] (And.intro rfl (And.intro rfl (And.intro rfl (And.intro rfl (And.intro rfl (And.intro rfl (And.intro rfl (And.intro rfl (And.intro rfl (And.intro (And.intro rfl (And.intro rfl trivial)) (And.intro rfl (And.intro rfl trivial))))))))))))))))
            · have hz := someE hF
              subst hz
              refine Exists.intro [] (Exists.intro [] (Exists.intro [] (Exists.intro [] (Exists.intro [(0, some 0), (1, some 1)] (And.intro rfl (And.intro rfl (And.intro rfl (And.intro rfl (And.intro rfl (And.intro rfl (And.intro rfl (And.intro rfl (And.intro rfl (And.intro (And.intro rfl (And.intro rfl trivial)) (And.intro rfl (And.intro rfl trivial))))))))))))))))
          · refine And.intro ?_ trivial
            refine guardI hF (fun hF => ?_)
            refine guardI hF (fun hF => ?_)
            refine Exists.intro ((IntKind.i64.wrap (Int.tdiv rest (rd (0 : Int) big i))), (IntKind.i64.wrap (i - (1 : Int))), z14) (And.intro hF (Exists.intro [] (Exists.intro [] (Exists.intro [] (Exists.intro [] (Exists.intro [(0, some 0), (1, some 1)] (And.intro rfl (And.intro rfl (And.intro rfl (And.intro rfl (And.intro rfl (And.intro rfl (And.intro rfl (And.intro rfl (And.intro rfl (And.intro (And.intro rfl (And.intro rfl trivial)) (And.intro rfl (And.intro rfl trivial))))))))))))))))))
        · have hz := someE hF
          subst hz
          refine Exists.intro [] (Exists.intro [] (Exists.intro [] (Exists.intro [] (Exists.intro [(0, some 0), (1, some 1)] (And.intro rfl (And.intro rfl (And.intro rfl (And.intro rfl (And.intro rfl (And.intro rfl (And.intro (And.intro rfl (And.intro rfl trivial)) (And.intro rfl (And.intro rfl trivial)))))))))))))
      · refine And.intro ?_ trivial
        refine Exists.intro ((IntKind.i64.wrap (v23 + (1 : Int))), z13) (And.intro hF (Exists.intro [] (Exists.intro [] (Exists.intro [] (Exists.intro [] (Exists.intro [(0, some 0), (1, some 1)] (And.intro rfl (And.intro rfl (And.intro rfl (And.intro rfl (And.intro rfl (And.intro rfl (And.intro (And.intro rfl (And.intro rfl trivial)) (And.intro rfl (And.intro rfl trivial)))))))))))))))
    · have hz := someE hF
      subst hz
      refine Exists.intro [] (Exists.intro [] (Exists.intro [] (Exists.intro [] (Exists.intro [(0, some 1)] (And.intro rfl (And.intro (And.intro rfl trivial) (And.intro rfl trivial)))))))
  · refine And.intro ?_ trivial
    refine Or.inl ?_
    have hy := someE hF
    subst hy
    refine And.intro rfl (Exists.intro [] (Exists.intro [] (Exists.intro [] (Exists.intro [] (Exists.intro [(0, some 0)] (And.intro rfl (And.intro (And.intro rfl trivial) (And.intro rfl trivial))))))))
theorem C142_holds : C142.Holds Tryz.prog 142 := holds_of_vc tab_ok mixed (fn := Tryz.f142) (by kernel_rfl) rfl C142 (fun x y hF => C142_vc x.1 x.2 y hF)
theorem f142_in : ∃ fn, Tryz.prog.funcs[142]? = some fn ∧ fn.body.isSome = true ∧ (fn.name == "runtime.NumGoroutine") = false := ⟨Tryz.f142, by kernel_rfl, by kernel_rfl, by kernel_rfl⟩
end Go.Proofs
namespace Go.Proofs
open Go.AM
-- carousel/fix.Add
def f65_j1 (a : Int) (b : Int) : Option (Sum Unit Unit) :=
  bif (!((decide (a < (0 : Int))) == (decide (b < (0 : Int))))) then
    some (Sum.inr ())
  else
    bif ((decide ((IntKind.i64.wrap (a + b)) < (0 : Int))) == (decide (a < (0 : Int)))) then
      some (Sum.inr ())
    else
      some (Sum.inl ())
def f65 (a : Int) (b : Int) : Option Int :=
  bindF (f65_j1 a b) fun z1 =>
  sumF z1 (fun z1a =>
    bif (decide (a < (0 : Int))) then
      some (-9223372036854775808 : Int)
    else
      some (9223372036854775807 : Int)) (fun z1b =>
    some (IntKind.i64.wrap (a + b)))
def C65 : Con where
  X := Int × Int
  Y := Int
  e := 0
  args x := [.dat (.int .i64) x.1, .dat (.int .i64) x.2]
  hin x := []
  F x := f65 x.1 x.2
  ret y := [.dat (.int .i64) y]
  hout y := []
  nout := 0
theorem C65_vc (a : Int) (b : Int) (y : Int) (hF : f65 a b = some y) : vc Tryz.prog tab Tryz.f65.ntmps 0 (match Tryz.f65.body with | some c => c | none => .skip) (retK tab C65 Tryz.f65.results.toList y) (C65.shIn (a, b)).st := by
  unfold f65 at hF
  refine Or.inl ?_
  refine Or.inl ?_
  obtain ⟨z1, hz1, hF⟩ := bindE hF
  refine Or.inr ⟨Sum.elim (fun z1a => [(0, ⟨[(0, .dat (.int .i64) a)], [], 0⟩)]) (fun z1b => [(1, ⟨[(4, .dat (.int .i64) (IntKind.i64.wrap (a + b)))], [], 0⟩)]) z1, ?_, ?_⟩
  · have hF := hz1
    clear hz1
    unfold f65_j1 at hF
    refine Or.inl ?_
    refine condN hF (fun hF => ?_) (fun hF => ?_)
    · refine gdYF ?_
      refine gdYF ?_
      refine gdYF ?_
      refine gdYF ?_
      refine condF ?_
      refine condI hF (fun hF => ?_) (fun hF => ?_)
      · refine Or.inl ?_
        have hz := someE hF
        subst hz
        refine Exists.intro [] (Exists.intro [] (Exists.intro [] (Exists.intro [] (Exists.intro [] (And.intro rfl (And.intro rfl (And.intro trivial trivial)))))))
      · have hz := someE hF
        subst hz
        refine Exists.intro [] (Exists.intro [] (Exists.intro [] (Exists.intro [] (Exists.intro [] (And.intro rfl (And.intro rfl (And.intro trivial trivial)))))))
    · refine gdNF ?_
      refine gdNF ?_
      refine gdNF ?_
      refine gdNF ?_
      refine condT ?_
      refine condT ?_
      refine Or.inl ?_
      have hz := someE hF
      subst hz
      refine Exists.intro [] (Exists.intro [] (Exists.intro [] (Exists.intro [] (Exists.intro [] (And.intro rfl (And.intro rfl (And.intro trivial trivial)))))))
  · rcases z1 with z1a | z1b
    · dsimp only [sumF] at hF
      refine And.intro ?_ trivial
      refine Or.inl ?_
      refine Or.inl ?_
      refine condI hF (fun hF => ?_) (fun hF => ?_)
      · refine Or.inl ?_
        have hy := someE hF
        subst hy
        refine And.intro rfl (Exists.intro [] (Exists.intro [] (Exists.intro [] (Exists.intro [] (Exists.intro [] (And.intro rfl (And.intro rfl (And.intro trivial trivial))))))))
      · refine Or.inl ?_
        have hy := someE hF
        subst hy
        refine And.intro rfl (Exists.intro [] (Exists.intro [] (Exists.intro [] (Exists.intro [] (Exists.intro [] (And.intro rfl (And.intro rfl (And.intro trivial trivial))))))))
    · dsimp only [sumF] at hF
      refine And.intro ?_ trivial
      have hy := someE hF
      subst hy
      refine And.intro rfl (Exists.intro [] (Exists.intro [] (Exists.intro [] (Exists.intro [] (Exists.intro [] (And.intro rfl (And.intro rfl (And.intro trivial trivial))))))))
theorem C65_holds : C65.Holds Tryz.prog 65 := holds_of_vc tab_ok mixed (fn := Tryz.f65) (by kernel_rfl) rfl C65 (fun x y hF => C65_vc x.1 x.2 y hF)
theorem f65_in : ∃ fn, Tryz.prog.funcs[65]? = some fn ∧ fn.body.isSome = true ∧ (fn.name == "runtime.NumGoroutine") = false := ⟨Tryz.f65, by kernel_rfl, by kernel_rfl, by kernel_rfl⟩
end Go.Proofs
namespace Go.Proofs
open Go.AM
-- carousel/tens.both
def f120_65_j3 (a : (List Int) × (List Int)) (b : (List Int) × (List Int)) : Option Bool :=
  bindF (f86 (a.1, a.2)) fun r9 =>
  bif (!r9) then
    some true
  else
    bindF (f86 (b.1, b.2)) fun r10 =>
    some (!r10)
def f120_65_j2 (a : (List Int) × (List Int)) (b : (List Int) × (List Int)) : Option (Sum Unit Unit) :=
  bindF (f120_65_j3 a b) fun z8 =>
  bif z8 then
    some (Sum.inr ())
  else
    some (Sum.inl ())
def f120_65_l4 (a : (List Int) × (List Int)) (b : (List Int) × (List Int)) (r12 : Int × (List Int) × (List Int)) (q7_3 : List Int) (q7_7 : List Int) (go : (Int × (List Int)) → Option (List Int)) (v52 : Int) (l7 : List Int) : Option (List Int) :=
  bif (decide (v52 < (List.length r12.2.2 : Int))) then
    guardF (0 ≤ v52 ∧ v52 < (List.length q7_3 : Int)) <|
    guardF (0 ≤ (rd (0 : Int) q7_3 v52) ∧ (rd (0 : Int) q7_3 v52) < (List.length a.2 : Int)) <|
    guardF (0 ≤ v52 ∧ v52 < (List.length q7_7 : Int)) <|
    guardF (0 ≤ (rd (0 : Int) q7_7 v52) ∧ (rd (0 : Int) q7_7 v52) < (List.length b.2 : Int)) <|
    bindF (f65 (rd (0 : Int) a.2 (rd (0 : Int) q7_3 v52)) (rd (0 : Int) b.2 (rd (0 : Int) q7_7 v52))) fun q11_20 =>
    guardF (0 ≤ v52 ∧ v52 < (List.length l7 : Int)) <|
    go ((IntKind.i64.wrap (v52 + (1 : Int))), (List.set l7 (Int.toNat v52) q11_20))
  else
    some l7
def f120_65 (a : (List Int) × (List Int)) (b : (List Int) × (List Int)) : Option (Int × (List Int) × (List Int)) :=
  bindF (f120_65_j2 a b) fun z5 =>
  sumF z5 (fun z5a =>
    bindF (f141 a.1 b.1) fun r11 =>
    bif (r11.1 != (0 : Int)) then
      some (r11.1, [], [])
    else
      bindF (f52 r11.2 (0 : Int)) fun r12 =>
      bindF (f142 a.1 r11.2) fun q7_3 =>
      bindF (f142 b.1 r11.2) fun q7_7 =>
      bindF (loopF (fun go x => f120_65_l4 a b r12 q7_3 q7_7 go x.1 x.2) fuelN ((0 : Int), r12.2.2)) fun z13 =>
      some ((0 : Int), r12.2.1, z13)) (fun z5b =>
    some ((1 : Int), [], []))
def C120_65 : Con where
  X := ((List Int) × (List Int)) × ((List Int) × (List Int))
  Y := Int × (List Int) × (List Int)
  e := 0
  args x := [.dat (.p (.sl (.int .i64)) (.sl (.int .i64))) x.1, .dat (.p (.sl (.int .i64)) (.sl (.int .i64))) x.2, .raw false [(.c (.func (.func 65) #[] #[]))]]
  hin x := []
  F x := f120_65 x.1 x.2
  ret y := [.raw true [(.osl 0), (.osl 1)], .dat (.int .i64) y.1]
  hout y := [(0, .arr 3 (.int .i64) y.2.1), (1, .arr 23 (.int .i64) y.2.2)]
  nout := 2
theorem C120_65_vc (a : (List Int) × (List Int)) (b : (List Int) × (List Int)) (y : Int × (List Int) × (List Int)) (hF : f120_65 a b = some y) : vc Tryz.prog tab Tryz.f120.ntmps 0 (match Tryz.f120.body with | some c => c | none => .skip) (retK tab C120_65 Tryz.f120.results.toList y) (C120_65.shIn (a, b)).st := by
  unfold f120_65 at hF
  refine Or.inl ?_
  obtain ⟨z5, hz5, hF⟩ := bindE hF
  refine Or.inr ⟨Sum.elim (fun z5a => [(0, ⟨[(2, .raw false [(.c (.func (.func 65) #[] #[]))]), (3, .raw false [(.ptr 0 0)]), (4, .raw false [(.ptr 1 0)]), (6, .raw false [(.ptr 2 0)])], [(0, .cells [(.d (.sl (.int .i64)) a.1), (.d (.sl (.int .i64)) a.2)]), (1, .cells [(.d (.sl (.int .i64)) b.1), (.d (.sl (.int .i64)) b.2)]), (2, .cells [(.c (.slice none 0 0)), (.c (.slice none 0 0))])], 3⟩)]) (fun z5b => [(1, ⟨[(6, .raw false [(.ptr 0 0)]), (7, .dat (.int .i64) (1 : Int))], [(0, .cells [(.c (.slice none 0 0)), (.c (.slice none 0 0))])], 1⟩)]) z5, ?_, ?_⟩
  · have hF := hz5
    clear hz5
    unfold f120_65_j2 at hF
    obtain ⟨z8, hz8, hF⟩ := bindE hF
    refine Or.inr ⟨[(0, ⟨[(2, .raw false [(.c (.func (.func 65) #[] #[]))]), (3, .raw false [(.ptr 0 0)]), (4, .raw false [(.ptr 1 0)]), (6, .raw false [(.ptr 2 0)]), (22, .dat .bool z8)], [(0, .cells [(.d (.sl (.int .i64)) a.1), (.d (.sl (.int .i64)) a.2)]), (1, .cells [(.d (.sl (.int .i64)) b.1), (.d (.sl (.int .i64)) b.2)]), (2, .cells [(.c (.slice none 0 0)), (.c (.slice none 0 0))])], 3⟩)], ?_, ?_⟩
    · have hF := hz8
      clear hz8
      unfold f120_65_j3 at hF
      obtain ⟨r9, hr9, hF⟩ := bindE hF
      refine Or.inl (And.intro f86_in (callV0 (callI C86 (a.1, a.2) r9 [] false C86_holds hr9 rfl rfl ?_)))
      refine (And.intro rfl (And.intro rfl (And.intro (fun h => nomatch h) (And.intro rfl (And.intro rfl (And.intro trivial (And.intro trivial ?_)))))))
      refine condN hF (fun hF => ?_) (fun hF => ?_)
      · refine gdYF ?_
        obtain ⟨r10, hr10, hF⟩ := bindE hF
        refine Or.inl (And.intro f86_in (callV0 (callI C86 (b.1, b.2) r10 [] false C86_holds hr10 rfl rfl ?_)))
        refine (And.intro rfl (And.intro rfl (And.intro (fun h => nomatch h) (And.intro rfl (And.intro rfl (And.intro trivial (And.intro trivial ?_)))))))
        refine gdYF ?_
        refine condF ?_
        have hz := someE hF
        subst hz
        refine Exists.intro [] (Exists.intro [] (Exists.intro [] (Exists.intro [] (Exists.intro [(0, some 0), (1, some 1), (2, some 2)] (And.intro rfl (And.intro rfl (And.intro (And.intro rfl (And.intro rfl (And.intro rfl (And.intro rfl trivial)))) (And.intro rfl (And.intro rfl (And.intro rfl trivial))))))))))
      · refine gdNF ?_
        refine gdNF ?_
        refine condT ?_
        have hz := someE hF
        subst hz
        refine Exists.intro [] (Exists.intro [] (Exists.intro [] (Exists.intro [] (Exists.intro [(0, some 0), (1, some 1), (2, some 2)] (And.intro rfl (And.intro rfl (And.intro (And.intro rfl (And.intro rfl (And.intro rfl (And.intro rfl trivial)))) (And.intro rfl (And.intro rfl (And.intro rfl trivial))))))))))
    · refine And.intro ?_ trivial
      refine condI hF (fun hF => ?_) (fun hF => ?_)
      · refine Or.inl ?_
        refine Or.inl ?_
        have hz := someE hF
        subst hz
        refine Exists.intro [] (Exists.intro [] (Exists.intro [] (Exists.intro [] (Exists.intro [(0, some 2)] (And.intro rfl (And.intro rfl (And.intro (And.intro rfl trivial) (And.intro rfl trivial))))))))
      · have hz := someE hF
        subst hz
        refine Exists.intro [] (Exists.intro [] (Exists.intro [] (Exists.intro [] (Exists.intro [(0, some 0), (1, some 1), (2, some 2)] (And.intro rfl (And.intro (And.intro rfl (And.intro rfl (And.intro rfl (And.intro rfl trivial)))) (And.intro rfl (And.intro rfl (And.intro rfl trivial)))))))))
  · rcases z5 with z5a | z5b
    · dsimp only [sumF] at hF
      refine And.intro ?_ trivial
      refine Or.inl ?_
      obtain ⟨r11, hr11, hF⟩ := bindE hF
      refine Or.inl (And.intro f141_in (callV0 (callI C141 (a.1, b.1) r11 [] false C141_holds hr11 rfl rfl ?_)))
      refine (And.intro rfl (And.intro rfl (And.intro (fun h => nomatch h) (And.intro rfl (And.intro rfl (And.intro trivial (And.intro trivial ?_)))))))
      refine Or.inl ?_
      refine Or.inl ?_
      refine condI hF (fun hF => ?_) (fun hF => ?_)
      · refine Or.inl ?_
        refine Or.inl ?_
        have hy := someE hF
        subst hy
        refine And.intro rfl (Exists.intro [] (Exists.intro [] (Exists.intro [] (Exists.intro [] (Exists.intro [(0, none), (1, none)] (And.intro rfl (And.intro rfl (And.intro (And.intro rfl trivial) (And.intro rfl (And.intro rfl trivial))))))))))
      · refine Or.inl ?_
        obtain ⟨r12, hr12, hF⟩ := bindE hF
        refine Or.inl (And.intro f52_in (callV0 (callI C52 (r11.2, (0 : Int)) r12 [] true C52_holds hr12 rfl rfl ?_)))
        refine (And.intro rfl (And.intro rfl (And.intro (fun _ => rfl) (And.intro rfl (And.intro rfl (And.intro trivial (And.intro trivial ?_)))))))
        refine Or.inl ?_
        refine Or.inl ?_
        refine Exists.intro (.take 0 (.take 1 (.take 2 (.take 4 (.take 5 (.take 6 (.alt 3 (.alt 7 (.take 8 (.take 9 .done)) .done) .done))))))) (Exists.intro [] (Exists.intro [] (And.intro rfl ?_)))
        refine And.intro trivial ?_
        obtain ⟨q7_3, hq7_3, hF⟩ := bindE hF
        refine Or.inl (And.intro f142_in (callV0 (callI C142 (a.1, r11.2) q7_3 [] true C142_holds hq7_3 rfl rfl ?_)))
        refine (And.intro rfl (And.intro rfl (And.intro (fun _ => rfl) (And.intro rfl (And.intro rfl (And.intro trivial (And.intro trivial ?_)))))))
        refine And.intro trivial ?_
        obtain ⟨q7_7, hq7_7, hF⟩ := bindE hF
        refine Or.inl (And.intro f142_in (callV0 (callI C142 (b.1, r11.2) q7_7 [] true C142_holds hq7_7 rfl rfl ?_)))
        refine (And.intro rfl (And.intro rfl (And.intro (fun _ => rfl) (And.intro rfl (And.intro rfl (And.intro trivial (And.intro trivial ?_)))))))
        refine Or.inl ?_
        refine Or.inl ?_
        obtain ⟨z13, hz13, hF⟩ := bindE hF
        refine loopI (Int × (List Int)) (List Int) (fun x => ⟨[(2, .raw false [(.c (.func (.func 65) #[] #[]))]), (3, .raw false [(.ptr 0 0)]), (4, .raw false [(.ptr 1 0)]), (6, .raw false [(.ptr 2 0)]), (10, .raw false [(.ptr 3 0)]), (12, .raw false [(.osl 4)]), (13, .raw false [(.osl 5)]), (51, .dat (.int .i64) (List.length r12.2.2 : Int)), (52, .dat (.int .i64) x.1)], [(0, .cells [(.d (.sl (.int .i64)) a.1), (.d (.sl (.int .i64)) a.2)]), (1, .cells [(.d (.sl (.int .i64)) b.1), (.d (.sl (.int .i64)) b.2)]), (2, .cells [(.c (.slice none 0 0)), (.c (.slice none 0 0))]), (3, .cells [(.osl 6), (.osl 7)]), (4, .arr 3 (.int .i64) q7_3), (5, .arr 3 (.int .i64) q7_7), (6, .arr 3 (.int .i64) r12.2.1), (7, .arr 23 (.int .i64) x.2)], 8⟩) (fun z => [(2, ⟨[(6, .raw false [(.ptr 0 0)]), (10, .raw false [(.ptr 1 0)])], [(0, .cells [(.c (.slice none 0 0)), (.c (.slice none 0 0))]), (1, .cells [(.osl 2), (.osl 3)]), (2, .arr 3 (.int .i64) r12.2.1), (3, .arr 23 (.int .i64) z)], 4⟩)]) (loopF (fun go x => f120_65_l4 a b r12 q7_3 q7_7 go x.1 x.2)) fuelN ((0 : Int), r12.2.2) z13 (And.intro hz13 (And.intro (Exists.intro [] (Exists.intro [] (Exists.intro [] (Exists.intro [] (Exists.intro [(0, some 0), (1, some 1), (2, some 2), (3, some 6), (4, some 7), (5, some 8), (6, some 4), (7, some 5)] (And.intro rfl (And.intro rfl (And.intro rfl (And.intro (And.intro rfl (And.intro rfl (And.intro rfl (And.intro rfl (And.intro rfl (And.intro rfl (And.intro rfl trivial))))))) (And.intro rfl (And.intro rfl (And.intro rfl (And.intro rfl (And.intro rfl (And.intro rfl (And.intro rfl (And.intro rfl trivial))))))))))))))))) (And.intro (fun _ _ h => loopZ h) (And.intro (fun m => curI (fun v52 => fun l7 z hF => ?_)) ?_))))
        · have hF : f120_65_l4 a b r12 q7_3 q7_7 (loopF (fun go x => f120_65_l4 a b r12 q7_3 q7_7 go x.1 x.2) m) v52 l7 = some z := hF
          unfold f120_65_l4 at hF
          refine Or.inl ?_
          refine Or.inl ?_
          refine condI hF (fun hF => ?_) (fun hF => ?_)
          · refine Or.inl ?_
            refine Or.inl ?_
            refine Exists.intro (.take 0 (.take 1 (.take 2 (.take 3 (.take 4 (.take 5 (.take 6 (.take 7 (.take 8 (.take 9 (.take 10 (.take 11 (.take 12 (.take 13 (.take 14 (.take 15 (.take 16 (.take 17 (.take 18 (.take 19 (.alt 20 (.take 21 (.alt 22 .done .done)) .done))))))))))))))))))))) (Exists.intro [] (Exists.intro [] (And.intro rfl ?_)))
            refine guardI hF (fun hF => ?_)
            refine guardI hF (fun hF => ?_)
            refine guardI hF (fun hF => ?_)
            refine guardI hF (fun hF => ?_)
            refine And.intro trivial ?_
            obtain ⟨q11_20, hq11_20, hF⟩ := bindE hF
            refine Or.inl (And.intro f65_in (callV0 (callI C65 ((rd (0 : Int) a.2 (rd (0 : Int) q7_3 v52)), (rd (0 : Int) b.2 (rd (0 : Int) q7_7 v52))) q11_20 [] false C65_holds hq11_20 rfl rfl ?_)))
            refine (And.intro rfl (And.intro rfl (And.intro (fun h => nomatch h) (And.intro rfl (And.intro rfl (And.intro trivial (And.intro trivial ?_)))))))
            refine guardI hF (fun hF => ?_)
            refine And.intro trivial ?_
            refine Or.inl ?_
            refine Exists.intro ((IntKind.i64.wrap (v52 + (1 : Int))), (List.set l7 (Int.toNat v52) q11_20)) (And.intro hF (Exists.intro [] (Exists.intro [] (Exists.intro [] (Exists.intro [] (Exists.intro [(0, some 0), (1, some 1), (2, some 2), (3, some 3), (4, some 4), (5, some 5), (6, some 6), (7, some 7)] (And.intro rfl (And.intro rfl (And.intro rfl (And.intro (And.intro rfl (And.intro rfl (And.intro rfl (And.intro rfl (And.intro rfl (And.intro rfl (And.intro rfl trivial))))))) (And.intro rfl (And.intro rfl (And.intro rfl (And.intro rfl (And.intro rfl (And.intro rfl (And.intro rfl (And.intro rfl trivial))))))))))))))))))
          · have hz := someE hF
            subst hz
            refine Exists.intro [] (Exists.intro [] (Exists.intro [] (Exists.intro [] (Exists.intro [(0, some 2), (1, some 3), (2, some 6), (3, some 7)] (And.intro rfl (And.intro (And.intro rfl (And.intro rfl trivial)) (And.intro rfl (And.intro rfl (And.intro rfl (And.intro rfl trivial))))))))))
        · refine And.intro ?_ trivial
          refine Or.inl ?_
          refine Or.inl ?_
          have hy := someE hF
          subst hy
          refine And.intro rfl (Exists.intro [] (Exists.intro [] (Exists.intro [] (Exists.intro [] (Exists.intro [(0, some 2), (1, some 3)] (And.intro rfl (And.intro rfl (And.intro (And.intro rfl trivial) (And.intro rfl (And.intro rfl trivial))))))))))
    · dsimp only [sumF] at hF
      refine And.intro ?_ trivial
      have hy := someE hF
      subst hy
      refine And.intro rfl (Exists.intro [] (Exists.intro [] (Exists.intro [] (Exists.intro [] (Exists.intro [(0, none), (1, none)] (And.intro rfl (And.intro rfl (And.intro (And.intro rfl trivial) (And.intro rfl (And.intro rfl trivial))))))))))
theorem C120_65_holds : C120_65.Holds Tryz.prog 120 := holds_of_vc tab_ok mixed (fn := Tryz.f120) (by kernel_rfl) rfl C120_65 (fun x y hF => C120_65_vc x.1 x.2 y hF)
theorem f120_65_in : ∃ fn, Tryz.prog.funcs[120]? = some fn ∧ fn.body.isSome = true ∧ (fn.name == "runtime.NumGoroutine") = false := ⟨Tryz.f120, by kernel_rfl, by kernel_rfl, by kernel_rfl⟩
end Go.Proofs
namespace Go.Proofs
open Go.AM
-- carousel/tens.Add
def f90 (a : (List Int) × (List Int)) (b : (List Int) × (List Int)) : Option (Int × (List Int) × (List Int)) :=
  bindF (f120_65 (a.1, a.2) (b.1, b.2)) fun r1 =>
  some (r1.1, r1.2.1, r1.2.2)
def C90 : Con where
  X := ((List Int) × (List Int)) × ((List Int) × (List Int))
  Y := Int × (List Int) × (List Int)
  e := 0
  args x := [.dat (.p (.sl (.int .i64)) (.sl (.int .i64))) x.1, .dat (.p (.sl (.int .i64)) (.sl (.int .i64))) x.2]
  hin x := []
  F x := f90 x.1 x.2
  ret y := [.raw true [(.osl 0), (.osl 1)], .dat (.int .i64) y.1]
  hout y := [(0, .arr 3 (.int .i64) y.2.1), (1, .arr 23 (.int .i64) y.2.2)]
  nout := 2
theorem C90_vc (a : (List Int) × (List Int)) (b : (List Int) × (List Int)) (y : Int × (List Int) × (List Int)) (hF : f90 a b = some y) : vc Tryz.prog tab Tryz.f90.ntmps 0 (match Tryz.f90.body with | some c => c | none => .skip) (retK tab C90 Tryz.f90.results.toList y) (C90.shIn (a, b)).st := by
  unfold f90 at hF
  refine Or.inl ?_
  refine Or.inl ?_
  obtain ⟨r1, hr1, hF⟩ := bindE hF
  refine Or.inl (And.intro f120_65_in (callV0 (callI C120_65 ((a.1, a.2), (b.1, b.2)) r1 [] false C120_65_holds hr1 rfl rfl ?_)))
  refine (And.intro rfl (And.intro rfl (And.intro rfl (And.intro rfl (And.intro (fun h => nomatch h) (And.intro rfl (And.intro rfl (And.intro (And.intro rfl trivial) (And.intro trivial ?_)))))))))
  refine Or.inl ?_
  have hy := someE hF
  subst hy
  refine And.intro rfl (Exists.intro [] (Exists.intro [] (Exists.intro [] (Exists.intro [] (Exists.intro [(0, some 3), (1, some 4)] (And.intro rfl (And.intro rfl (And.intro (And.intro rfl trivial) (And.intro rfl (And.intro rfl trivial))))))))))
theorem C90_holds : C90.Holds Tryz.prog 90 := holds_of_vc tab_ok mixed (fn := Tryz.f90) (by kernel_rfl) rfl C90 (fun x y hF => C90_vc x.1 x.2 y hF)
theorem f90_in : ∃ fn, Tryz.prog.funcs[90]? = some fn ∧ fn.body.isSome = true ∧ (fn.name == "runtime.NumGoroutine") = false := ⟨Tryz.f90, by kernel_rfl, by kernel_rfl, by kernel_rfl⟩
end Go.Proofs
namespace Go.Proofs
open Go.AM
-- carousel/fix.Sub
def f68_j1 (a : Int) (b : Int) : Option (Sum Unit Unit) :=
  bif ((decide (a < (0 : Int))) == (decide (b < (0 : Int)))) then
    some (Sum.inr ())
  else
    bif ((decide ((IntKind.i64.wrap (a - b)) < (0 : Int))) == (decide (a < (0 : Int)))) then
      some (Sum.inr ())
    else
      some (Sum.inl ())
def f68 (a : Int) (b : Int) : Option Int :=
  bindF (f68_j1 a b) fun z1 =>
  sumF z1 (fun z1a =>
    bif (decide (a < (0 : Int))) then
      some (-9223372036854775808 : Int)
    else
      some (9223372036854775807 : Int)) (fun z1b =>
    some (IntKind.i64.wrap (a - b)))
def C68 : Con where
  X := Int × Int
  Y := Int
  e := 0
  args x := [.dat (.int .i64) x.1, .dat (.int .i64) x.2]
  hin x := []
  F x := f68 x.1 x.2
  ret y := [.dat (.int .i64) y]
  hout y := []
  nout := 0
theorem C68_vc (a : Int) (b : Int) (y : Int) (hF : f68 a b = some y) : vc Tryz.prog tab Tryz.f68.ntmps 0 (match Tryz.f68.body with | some c => c | none => .skip) (retK tab C68 Tryz.f68.results.toList y) (C68.shIn (a, b)).st := by
  unfold f68 at hF
  refine Or.inl ?_
  refine Or.inl ?_
  obtain ⟨z1, hz1, hF⟩ := bindE hF
  refine Or.inr ⟨Sum.elim (fun z1a => [(0, ⟨[(0, .dat (.int .i64) a)], [], 0⟩)]) (fun z1b => [(1, ⟨[(4, .dat (.int .i64) (IntKind.i64.wrap (a - b)))], [], 0⟩)]) z1, ?_, ?_⟩
  · have hF := hz1
    clear hz1
    unfold f68_j1 at hF
    refine Or.inl ?_
    refine condN hF (fun hF => ?_) (fun hF => ?_)
    · refine gdYF ?_
      refine gdYF ?_
      refine gdYF ?_
      refine gdYF ?_
      refine condF ?_
      refine condI hF (fun hF => ?_) (fun hF => ?_)
      · refine Or.inl ?_
        have hz := someE hF
        subst hz
        refine Exists.intro [] (Exists.intro [] (Exists.intro [] (Exists.intro [] (Exists.intro [] (And.intro rfl (And.intro rfl (And.intro trivial trivial)))))))
      · have hz := someE hF
        subst hz
        refine Exists.intro [] (Exists.intro [] (Exists.intro [] (Exists.intro [] (Exists.intro [] (And.intro rfl (And.intro rfl (And.intro trivial trivial)))))))
    · refine gdNF ?_
      refine gdNF ?_
      refine gdNF ?_
      refine gdNF ?_
      refine condT ?_
      refine condT ?_
      refine Or.inl ?_
      have hz := someE hF
      subst hz
      refine Exists.intro [] (Exists.intro [] (Exists.intro [] (Exists.intro [] (Exists.intro [] (And.intro rfl (And.intro rfl (And.intro trivial trivial)))))))
  · rcases z1 with z1a | z1b
    · dsimp only [sumF] at hF
      refine And.intro ?_ trivial
      refine Or.inl ?_
      refine Or.inl ?_
      refine condI hF (fun hF => ?_) (fun hF => ?_)
      · refine Or.inl ?_
        have hy := someE hF
        subst hy
        refine And.intro rfl (Exists.intro [] (Exists.intro [] (Exists.intro [] (Exists.intro [] (Exists.intro [] (And.intro rfl (And.intro rfl (And.intro trivial trivial))))))))
      · refine Or.inl ?_
        have hy := someE hF
        subst hy
        refine And.intro rfl (Exists.intro [] (Exists.intro [] (Exists.intro [] (Exists.intro [] (Exists.intro [] (And.intro rfl (And.intro rfl (And.intro trivial trivial))))))))
    · dsimp only [sumF] at hF
      refine And.intro ?_ trivial
      have hy := someE hF
      subst hy
      refine And.intro rfl (Exists.intro [] (Exists.intro [] (Exists.intro [] (Exists.intro [] (Exists.intro [] (And.intro rfl (And.intro rfl (And.intro trivial trivial))))))))
theorem C68_holds : C68.Holds Tryz.prog 68 := holds_of_vc tab_ok mixed (fn := Tryz.f68) (by kernel_rfl) rfl C68 (fun x y hF => C68_vc x.1 x.2 y hF)
theorem f68_in : ∃ fn, Tryz.prog.funcs[68]? = some fn ∧ fn.body.isSome = true ∧ (fn.name == "runtime.NumGoroutine") = false := ⟨Tryz.f68, by kernel_rfl, by kernel_rfl, by kernel_rfl⟩
end Go.Proofs
