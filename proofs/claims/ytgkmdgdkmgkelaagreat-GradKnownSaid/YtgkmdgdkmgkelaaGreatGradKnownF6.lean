import Derived.Test.YtgkmdgdkmgkelaaGreatGradKnownF5
set_option linter.unusedVariables false
set_option maxRecDepth 100000
set_option maxHeartbeats 8000000
namespace Go.Proofs
open Go.AM
-- carousel/model.Run
def f22_j3 (n : (List Int) × (List (ByteArray × Int × Int))) (p_ : List Int) (x_ : List Int) (r1 : Int × Bool) : Option Bool :=
  bif ((List.length p_ : Int) != r1.1) then
    some true
  else
    bindF (f44 n.1) fun r8 =>
    some ((List.length x_ : Int) != r8)
def f22_j2 (n : (List Int) × (List (ByteArray × Int × Int))) (p_ : List Int) (x_ : List Int) (r1 : Int × Bool) : Option (Sum Unit Unit) :=
  bindF (f22_j3 n p_ x_ r1) fun z7 =>
  bif z7 then
    some (Sum.inr ())
  else
    some (Sum.inl ())
def f22_l4 (n : (List Int) × (List (ByteArray × Int × Int))) (q18_7 : Int × (List (List Int))) (go : (Int × Int × Int × Int × (List Int) × (List (Int × Int × Int × Int × (List Int) × (List Int))) × (List Int)) → Option (Int × Int × (List Int) × (List (Int × Int × Int × Int × (List Int) × (List Int))) × (List Int))) (at_ : Int) (ahead : Int) (v62 : Int) (c3_1 : Int) (c3_2 : List Int) (l4 : List (Int × Int × Int × Int × (List Int) × (List Int))) (l5 : List Int) : Option (Int × Int × (List Int) × (List (Int × Int × Int × Int × (List Int) × (List Int))) × (List Int)) :=
  bif (decide (v62 < (List.length n.2 : Int))) then
    guardF (0 ≤ v62 ∧ v62 < (List.length n.2 : Int)) <|
    guardF (0 ≤ v62 ∧ v62 < (List.length q18_7.2 : Int)) <|
    bindF (f47 l4 c3_1 c3_2 l5 ((rd (Ty.z (.p .str (.p (.int .i64) (.int .i64)))) n.2 v62).1, ((rd (Ty.z (.p .str (.p (.int .i64) (.int .i64)))) n.2 v62).2).1, ((rd (Ty.z (.p .str (.p (.int .i64) (.int .i64)))) n.2 v62).2).2) (rd (Ty.z (.sl (.int .i64))) q18_7.2 v62) at_ ahead) fun q12_8 =>
    go (q12_8.1, at_, (IntKind.i64.wrap (v62 + (1 : Int))), q12_8.2.1, q12_8.2.2.1, q12_8.2.2.2.2, q12_8.2.2.2.1)
  else
    some (at_, c3_1, c3_2, l4, l5)
def f22 (t_l : List (Int × Int × Int × Int × (List Int) × (List Int))) (n : (List Int) × (List (ByteArray × Int × Int))) (p_ : List Int) (x_ : List Int) : Option (Int × Int × (List Int) × (List (Int × Int × Int × Int × (List Int) × (List Int)))) :=
  bindF (f42 (n.1, n.2)) fun q18_7 =>
  bif (q18_7.1 != (0 : Int)) then
    some ((0 : Int), q18_7.1, [], t_l)
  else
    bindF (f43 (n.1, n.2) q18_7.2) fun r1 =>
    bindF (f22_j2 n p_ x_ r1) fun z5 =>
    sumF z5 (fun z5a =>
      bindF (f45 t_l) fun r9 =>
      bindF (f46 r9.2 (0 : Int) p_ ([]) n.1 x_) fun r10 =>
      bindF (loopF (fun go x => f22_l4 n q18_7 go x.1 x.2.1 x.2.2.1 x.2.2.2.1 x.2.2.2.2.1 x.2.2.2.2.2.1 x.2.2.2.2.2.2) fuelN (r10.1, (0 : Int), (0 : Int), r10.2.1, r10.2.2.1, r10.2.2.2.2, r10.2.2.2.1)) fun z11 =>
      bif (z11.2.1 != (0 : Int)) then
        bindF (f48 z11.2.2.2.1 r9.1) fun q12_9 =>
        some ((0 : Int), z11.2.1, [], q12_9)
      else
        some (z11.1, (0 : Int), z11.2.2.2.2, z11.2.2.2.1)) (fun z5b =>
      some ((0 : Int), (1 : Int), [], t_l))
def C22 : Con where
  X := (List (Int × Int × Int × Int × (List Int) × (List Int))) × ((List Int) × (List (ByteArray × Int × Int))) × (List Int) × (List Int)
  Y := Int × Int × (List Int) × (List (Int × Int × Int × Int × (List Int) × (List Int)))
  e := 2
  args x := [.raw false [(.ptr 0 0)], .dat (.p (.sl (.int .i64)) (.sl (.p .str (.p (.int .i64) (.int .i64))))) x.2.1, .dat (.sl (.int .i64)) x.2.2.1, .dat (.sl (.int .i64)) x.2.2.2]
  hin x := [(0, .cells [(.osl 1)]), (1, .arr 132 (.p (.int .i64) (.p (.int .i64) (.p (.int .i64) (.p (.int .i64) (.p (.sl (.int .i64)) (.sl (.int .i64))))))) x.1)]
  F x := f22 x.1 x.2.1 x.2.2.1 x.2.2.2
  ret y := [.dat (.int .i64) y.1, .raw false [(.osl 2)], .dat (.int .i64) y.2.1]
  hout y := [(0, .cells [(.osl 3)]), (2, .arr 3 (.int .i64) y.2.2.1), (3, .arr 132 (.p (.int .i64) (.p (.int .i64) (.p (.int .i64) (.p (.int .i64) (.p (.sl (.int .i64)) (.sl (.int .i64))))))) y.2.2.2)]
  nout := 4
theorem C22_vc (t_l : List (Int × Int × Int × Int × (List Int) × (List Int))) (n : (List Int) × (List (ByteArray × Int × Int))) (p_ : List Int) (x_ : List Int) (y : Int × Int × (List Int) × (List (Int × Int × Int × Int × (List Int) × (List Int)))) (hF : f22 t_l n p_ x_ = some y) : vc Tryz.prog tab Tryz.f22.ntmps 2 (match Tryz.f22.body with | some c => c | none => .skip) (retK tab C22 Tryz.f22.results.toList y) (C22.shIn (t_l, n, p_, x_)).st := by
  unfold f22 at hF
  refine Or.inl ?_
  refine Or.inl ?_
  obtain ⟨q18_7, hq18_7, hF⟩ := bindE hF
  refine Or.inl (And.intro f42_in (callV0 (callI C42 (n.1, n.2) q18_7 [] false C42_holds hq18_7 rfl rfl ?_)))
  refine (And.intro rfl (And.intro rfl (And.intro (fun h => nomatch h) (And.intro rfl (And.intro rfl (And.intro trivial (And.intro trivial ?_)))))))
  refine Or.inl ?_
  refine Or.inl ?_
  refine condI hF (fun hF => ?_) (fun hF => ?_)
  · refine Or.inl ?_
    have hy := someE hF
    subst hy
    refine And.intro rfl (Exists.intro [] (Exists.intro [] (Exists.intro [] (Exists.intro [] (Exists.intro [(0, some 0), (2, none), (3, some 1)] (And.intro rfl (And.intro rfl (And.intro rfl (And.intro (And.intro rfl trivial) (And.intro rfl (And.intro rfl (And.intro rfl trivial))))))))))))
  · refine Or.inl ?_
    obtain ⟨r1, hr1, hF⟩ := bindE hF
    refine Or.inl (And.intro f43_in (callV0 (callI C43 ((n.1, n.2), q18_7.2) r1 [] true C43_holds hr1 rfl rfl ?_)))
    refine (And.intro rfl (And.intro rfl (And.intro rfl (And.intro (fun _ => rfl) (And.intro rfl (And.intro rfl (And.intro trivial (And.intro trivial ?_))))))))
    obtain ⟨z5, hz5, hF⟩ := bindE hF
    refine Or.inr ⟨Sum.elim (fun z5a => [(0, ⟨[(0, .raw false [(.ptr 0 0)]), (2, .dat (.sl (.int .i64)) p_), (3, .dat (.sl (.int .i64)) x_), (5, .raw false [(.ptr 2 0)]), (11, .raw false [(.osl 3)])], [(0, .cells [(.osl 1)]), (1, .arr 132 (.p (.int .i64) (.p (.int .i64) (.p (.int .i64) (.p (.int .i64) (.p (.sl (.int .i64)) (.sl (.int .i64))))))) t_l), (2, .cells [(.d (.sl (.int .i64)) n.1), (.d (.sl (.p .str (.p (.int .i64) (.int .i64)))) n.2)]), (3, .arr 30 (.sl (.int .i64)) q18_7.2)], 4⟩)]) (fun z5b => [(1, ⟨[(8, .dat (.int .i64) (0 : Int)), (9, .raw false [(.c (.slice none 0 0))]), (10, .dat (.int .i64) (1 : Int))], [(0, .cells [(.osl 1)]), (1, .arr 132 (.p (.int .i64) (.p (.int .i64) (.p (.int .i64) (.p (.int .i64) (.p (.sl (.int .i64)) (.sl (.int .i64))))))) t_l)], 2⟩)]) z5, ?_, ?_⟩
    · have hF := hz5
      clear hz5
      unfold f22_j2 at hF
      obtain ⟨z7, hz7, hF⟩ := bindE hF
      refine Or.inr ⟨[(0, ⟨[(0, .raw false [(.ptr 0 0)]), (2, .dat (.sl (.int .i64)) p_), (3, .dat (.sl (.int .i64)) x_), (5, .raw false [(.ptr 2 0)]), (11, .raw false [(.osl 3)]), (47, .dat .bool z7)], [(0, .cells [(.osl 1)]), (1, .arr 132 (.p (.int .i64) (.p (.int .i64) (.p (.int .i64) (.p (.int .i64) (.p (.sl (.int .i64)) (.sl (.int .i64))))))) t_l), (2, .cells [(.d (.sl (.int .i64)) n.1), (.d (.sl (.p .str (.p (.int .i64) (.int .i64)))) n.2)]), (3, .arr 30 (.sl (.int .i64)) q18_7.2)], 4⟩)], ?_, ?_⟩
      · have hF := hz7
        clear hz7
        unfold f22_j3 at hF
        refine condN hF (fun hF => ?_) (fun hF => ?_)
        · refine gdYF ?_
          refine gdYF ?_
          refine gdYF ?_
          refine gdYF ?_
          obtain ⟨r8, hr8, hF⟩ := bindE hF
          refine Or.inl (And.intro f44_in (callV0 (callI C44 n.1 r8 [] false C44_holds hr8 rfl rfl ?_)))
          refine (And.intro rfl (And.intro (fun h => nomatch h) (And.intro rfl (And.intro rfl (And.intro trivial (And.intro trivial ?_))))))
          refine gdYF ?_
          refine condF ?_
          have hz := someE hF
          subst hz
          refine Exists.intro [] (Exists.intro [] (Exists.intro [] (Exists.intro [] (Exists.intro [(0, some 0), (1, some 1), (2, some 2), (3, some 3)] (And.intro rfl (And.intro rfl (And.intro rfl (And.intro rfl (And.intro (And.intro rfl (And.intro rfl (And.intro rfl trivial))) (And.intro rfl (And.intro rfl (And.intro rfl (And.intro rfl trivial)))))))))))))
        · refine gdNF ?_
          refine gdNF ?_
          refine gdNF ?_
          refine gdNF ?_
          refine gdNF ?_
          refine condT ?_
          have hz := someE hF
          subst hz
          refine Exists.intro [] (Exists.intro [] (Exists.intro [] (Exists.intro [] (Exists.intro [(0, some 0), (1, some 1), (2, some 2), (3, some 3)] (And.intro rfl (And.intro rfl (And.intro rfl (And.intro rfl (And.intro (And.intro rfl (And.intro rfl (And.intro rfl trivial))) (And.intro rfl (And.intro rfl (And.intro rfl (And.intro rfl trivial)))))))))))))
      · refine And.intro ?_ trivial
        refine condI hF (fun hF => ?_) (fun hF => ?_)
        · refine Or.inl ?_
          have hz := someE hF
          subst hz
          refine Exists.intro [] (Exists.intro [] (Exists.intro [] (Exists.intro [] (Exists.intro [(0, some 0), (1, some 1)] (And.intro rfl (And.intro rfl (And.intro rfl (And.intro (And.intro rfl trivial) (And.intro rfl (And.intro rfl trivial))))))))))
        · have hz := someE hF
          subst hz
          refine Exists.intro [] (Exists.intro [] (Exists.intro [] (Exists.intro [] (Exists.intro [(0, some 0), (1, some 1), (2, some 2), (3, some 3)] (And.intro rfl (And.intro rfl (And.intro rfl (And.intro (And.intro rfl (And.intro rfl (And.intro rfl trivial))) (And.intro rfl (And.intro rfl (And.intro rfl (And.intro rfl trivial))))))))))))
    · rcases z5 with z5a | z5b
      · dsimp only [sumF] at hF
        refine And.intro ?_ trivial
        refine Or.inl ?_
        obtain ⟨r9, hr9, hF⟩ := bindE hF
        refine Or.inl (And.intro f45_in (callV0 (callI C45 t_l r9 [(0, some 0), (1, some 1)] false C45_holds hr9 rfl rfl ?_)))
        refine (And.intro (fun h => nomatch h) (And.intro rfl (And.intro rfl (And.intro (And.intro rfl trivial) (And.intro (And.intro rfl (And.intro rfl trivial)) ?_)))))
        refine Or.inl ?_
        obtain ⟨r10, hr10, hF⟩ := bindE hF
        refine Or.inl (And.intro f46_in (callVn [(4, 3, 3, (.int .i64))] (virtI rfl rfl (virt0 (callI C46 (r9.2, (0 : Int), p_, [], n.1, x_) r10 [(0, some 4), (1, some 0), (2, some 1), (3, some 7)] false C46_holds hr10 rfl rfl ?_)))))
        refine (And.intro rfl (And.intro rfl (And.intro (fun h => nomatch h) (And.intro rfl (And.intro rfl (And.intro (And.intro rfl trivial) (And.intro (And.intro rfl (And.intro rfl (And.intro rfl (And.intro rfl trivial)))) ?_)))))))
        refine Or.inl ?_
        refine Or.inl ?_
        obtain ⟨z11, hz11, hF⟩ := bindE hF
        refine loopI (Int × Int × Int × Int × (List Int) × (List (Int × Int × Int × Int × (List Int) × (List Int))) × (List Int)) (Int × Int × (List Int) × (List (Int × Int × Int × Int × (List Int) × (List Int))) × (List Int)) (fun x => ⟨[(0, .raw false [(.ptr 0 0)]), (11, .raw false [(.osl 2)]), (15, .raw false [(.ptr 3 0)]), (16, .dat (.int .i64) r9.1), (17, .dat (.int .i64) x.1), (18, .dat (.int .i64) x.2.1), (60, .dat (.sl (.p .str (.p (.int .i64) (.int .i64)))) n.2), (61, .dat (.int .i64) (List.length n.2 : Int)), (62, .dat (.int .i64) x.2.2.1)], [(0, .cells [(.osl 4)]), (2, .arr 30 (.sl (.int .i64)) q18_7.2), (3, .cells [(.ptr 0 0), (.d (.int .i64) x.2.2.2.1), (.d (.sl (.int .i64)) x.2.2.2.2.1), (.osl 5)]), (4, .arr 132 (.p (.int .i64) (.p (.int .i64) (.p (.int .i64) (.p (.int .i64) (.p (.sl (.int .i64)) (.sl (.int .i64))))))) x.2.2.2.2.2.1), (5, .arr 3 (.int .i64) x.2.2.2.2.2.2)], 6⟩) (fun z => [(2, ⟨[(0, .raw false [(.ptr 0 0)]), (15, .raw false [(.ptr 2 0)]), (16, .dat (.int .i64) r9.1), (17, .dat (.int .i64) z.1)], [(0, .cells [(.osl 3)]), (2, .cells [(.ptr 0 0), (.d (.int .i64) z.2.1), (.d (.sl (.int .i64)) z.2.2.1), (.osl 4)]), (3, .arr 132 (.p (.int .i64) (.p (.int .i64) (.p (.int .i64) (.p (.int .i64) (.p (.sl (.int .i64)) (.sl (.int .i64))))))) z.2.2.2.1), (4, .arr 3 (.int .i64) z.2.2.2.2)], 5⟩)]) (loopF (fun go x => f22_l4 n q18_7 go x.1 x.2.1 x.2.2.1 x.2.2.2.1 x.2.2.2.2.1 x.2.2.2.2.2.1 x.2.2.2.2.2.2)) fuelN (r10.1, (0 : Int), (0 : Int), r10.2.1, r10.2.2.1, r10.2.2.2.2, r10.2.2.2.1) z11 (And.intro hz11 (And.intro (Exists.intro [] (Exists.intro [] (Exists.intro [] (Exists.intro [] (Exists.intro [(0, some 0), (2, some 3), (3, some 4), (4, some 12), (5, some 7)] (And.intro rfl (And.intro rfl (And.intro rfl (And.intro rfl (And.intro rfl (And.intro rfl (And.intro rfl (And.intro (And.intro rfl (And.intro rfl (And.intro rfl trivial))) (And.intro rfl (And.intro rfl (And.intro rfl (And.intro rfl (And.intro rfl trivial)))))))))))))))))) (And.intro (fun _ _ h => loopZ h) (And.intro (fun m => curI (fun at_ => curI (fun ahead => curI (fun v62 => curI (fun c3_1 => curI (fun c3_2 => curI (fun l4 => fun l5 z hF => ?_))))))) ?_))))
        · have hF : f22_l4 n q18_7 (loopF (fun go x => f22_l4 n q18_7 go x.1 x.2.1 x.2.2.1 x.2.2.2.1 x.2.2.2.2.1 x.2.2.2.2.2.1 x.2.2.2.2.2.2) m) at_ ahead v62 c3_1 c3_2 l4 l5 = some z := hF
          unfold f22_l4 at hF
          refine Or.inl ?_
          refine Or.inl ?_
          refine condI hF (fun hF => ?_) (fun hF => ?_)
          · refine Or.inl ?_
            refine Or.inl ?_
            refine guardI hF (fun hF => ?_)
            refine Or.inl ?_
            refine Or.inl ?_
            refine Exists.intro (.take 0 (.take 1 (.take 2 (.take 3 (.take 4 (.take 5 (.take 6 (.take 7 (.alt 8 (.take 9 .done) .done))))))))) (Exists.intro [] (Exists.intro [] (And.intro rfl ?_)))
            refine guardI hF (fun hF => ?_)
            refine And.intro trivial ?_
            obtain ⟨q12_8, hq12_8, hF⟩ := bindE hF
            refine Or.inl (And.intro f47_in (callV0 (callI C47 (l4, c3_1, c3_2, l5, ((rd (Ty.z (.p .str (.p (.int .i64) (.int .i64)))) n.2 v62).1, ((rd (Ty.z (.p .str (.p (.int .i64) (.int .i64)))) n.2 v62).2).1, ((rd (Ty.z (.p .str (.p (.int .i64) (.int .i64)))) n.2 v62).2).2), (rd (Ty.z (.sl (.int .i64))) q18_7.2 v62), at_, ahead) q12_8 [(0, some 3), (1, some 0), (2, some 4), (3, some 5)] false C47_holds hq12_8 rfl rfl ?_)))
            refine (And.intro rfl (And.intro rfl (And.intro rfl (And.intro rfl (And.intro rfl (And.intro (fun h => nomatch h) (And.intro rfl (And.intro rfl (And.intro (And.intro rfl trivial) (And.intro (And.intro rfl (And.intro rfl (And.intro rfl (And.intro rfl trivial)))) ?_))))))))))
            refine Exists.intro (q12_8.1, at_, (IntKind.i64.wrap (v62 + (1 : Int))), q12_8.2.1, q12_8.2.2.1, q12_8.2.2.2.2, q12_8.2.2.2.1) (And.intro hF (Exists.intro [] (Exists.intro [] (Exists.intro [] (Exists.intro [] (Exists.intro [(0, some 0), (2, some 2), (3, some 3), (4, some 12), (5, some 11)] (And.intro rfl (And.intro rfl (And.intro rfl (And.intro rfl (And.intro rfl (And.intro rfl (And.intro rfl (And.intro (And.intro rfl (And.intro rfl (And.intro rfl trivial))) (And.intro rfl (And.intro rfl (And.intro rfl (And.intro rfl (And.intro rfl trivial)))))))))))))))))))
          · have hz := someE hF
            subst hz
            refine Exists.intro [] (Exists.intro [] (Exists.intro [] (Exists.intro [] (Exists.intro [(0, some 0), (2, some 3), (3, some 4), (4, some 5)] (And.intro rfl (And.intro rfl (And.intro rfl (And.intro (And.intro rfl (And.intro rfl trivial)) (And.intro rfl (And.intro rfl (And.intro rfl (And.intro rfl trivial))))))))))))
        · refine And.intro ?_ trivial
          refine Or.inl ?_
          refine Or.inl ?_
          refine condI hF (fun hF => ?_) (fun hF => ?_)
          · refine Or.inl ?_
            obtain ⟨q12_9, hq12_9, hF⟩ := bindE hF
            refine Or.inl (And.intro f48_in (callV0 (callI C48 (z11.2.2.2.1, r9.1) q12_9 [(0, some 0), (1, some 3)] false C48_holds hq12_9 rfl rfl ?_)))
            refine (And.intro rfl (And.intro (fun h => nomatch h) (And.intro rfl (And.intro rfl (And.intro (And.intro rfl trivial) (And.intro (And.intro rfl (And.intro rfl trivial)) ?_))))))
            refine Or.inl ?_
            refine Exists.intro (.take 0 (.take 1 (.take 2 (.take 3 (.take 4 (.take 5 (.take 6 .done))))))) (Exists.intro [] (Exists.intro [] (And.intro rfl ?_)))
            have hy := someE hF
            subst hy
            refine And.intro rfl (Exists.intro [] (Exists.intro [] (Exists.intro [] (Exists.intro [] (Exists.intro [(0, some 0), (2, none), (3, some 7)] (And.intro rfl (And.intro rfl (And.intro rfl (And.intro (And.intro rfl trivial) (And.intro rfl (And.intro rfl (And.intro rfl trivial))))))))))))
          · refine Or.inl ?_
            refine Exists.intro (.take 0 (.take 1 (.take 2 (.take 3 (.take 4 (.take 5 (.take 6 (.take 7 .done)))))))) (Exists.intro [] (Exists.intro [] (And.intro rfl ?_)))
            have hy := someE hF
            subst hy
            refine And.intro rfl (Exists.intro [] (Exists.intro [] (Exists.intro [] (Exists.intro [] (Exists.intro [(0, some 0), (2, some 4), (3, some 3)] (And.intro rfl (And.intro rfl (And.intro rfl (And.intro (And.intro rfl trivial) (And.intro rfl (And.intro rfl (And.intro rfl trivial))))))))))))
      · dsimp only [sumF] at hF
        refine And.intro ?_ trivial
        have hy := someE hF
        subst hy
        refine And.intro rfl (Exists.intro [] (Exists.intro [] (Exists.intro [] (Exists.intro [] (Exists.intro [(0, some 0), (2, none), (3, some 1)] (And.intro rfl (And.intro rfl (And.intro rfl (And.intro (And.intro rfl trivial) (And.intro rfl (And.intro rfl (And.intro rfl trivial))))))))))))
theorem C22_holds : C22.Holds Tryz.prog 22 := holds_of_vc tab_ok mixed (fn := Tryz.f22) (by kernel_rfl) rfl C22 (fun x y hF => C22_vc x.1 x.2.1 x.2.2.1 x.2.2.2 y hF)
theorem f22_in : ∃ fn, Tryz.prog.funcs[22]? = some fn ∧ fn.body.isSome = true ∧ (fn.name == "runtime.NumGoroutine") = false := ⟨Tryz.f22, by kernel_rfl, by kernel_rfl, by kernel_rfl⟩
end Go.Proofs
namespace Go.Proofs
open Go.AM
-- (*carousel/tape.Tape).At
def f53 (t_l : List (Int × Int × Int × Int × (List Int) × (List Int))) (n : Int) : Option (Int × Int × Int × Int × Bool × (List Int) × (List Int) × (List (Int × Int × Int × Int × (List Int) × (List Int)))) :=
  bindF (f84 t_l n) fun r1 =>
  bif (!r1.1) then
    some ((0 : Int), (0 : Int), (0 : Int), (0 : Int), false, [], [], r1.2)
  else
    guardF (0 ≤ n ∧ n < (List.length r1.2 : Int)) <|
    bindF (f85 ((((((rd (Ty.z (.p (.int .i64) (.p (.int .i64) (.p (.int .i64) (.p (.int .i64) (.p (.sl (.int .i64)) (.sl (.int .i64)))))))) r1.2 n).2).2).2).2).1, (((((rd (Ty.z (.p (.int .i64) (.p (.int .i64) (.p (.int .i64) (.p (.int .i64) (.p (.sl (.int .i64)) (.sl (.int .i64)))))))) r1.2 n).2).2).2).2).2)) fun r2 =>
    some ((rd (Ty.z (.p (.int .i64) (.p (.int .i64) (.p (.int .i64) (.p (.int .i64) (.p (.sl (.int .i64)) (.sl (.int .i64)))))))) r1.2 n).1, ((rd (Ty.z (.p (.int .i64) (.p (.int .i64) (.p (.int .i64) (.p (.int .i64) (.p (.sl (.int .i64)) (.sl (.int .i64)))))))) r1.2 n).2).1, (((rd (Ty.z (.p (.int .i64) (.p (.int .i64) (.p (.int .i64) (.p (.int .i64) (.p (.sl (.int .i64)) (.sl (.int .i64)))))))) r1.2 n).2).2).1, ((((rd (Ty.z (.p (.int .i64) (.p (.int .i64) (.p (.int .i64) (.p (.int .i64) (.p (.sl (.int .i64)) (.sl (.int .i64)))))))) r1.2 n).2).2).2).1, true, r2.1, r2.2, r1.2)
def C53 : Con where
  X := (List (Int × Int × Int × Int × (List Int) × (List Int))) × Int
  Y := Int × Int × Int × Int × Bool × (List Int) × (List Int) × (List (Int × Int × Int × Int × (List Int) × (List Int)))
  e := 2
  args x := [.raw false [(.ptr 0 0)], .dat (.int .i64) x.2]
  hin x := [(0, .cells [(.osl 1)]), (1, .arr 132 (.p (.int .i64) (.p (.int .i64) (.p (.int .i64) (.p (.int .i64) (.p (.sl (.int .i64)) (.sl (.int .i64))))))) x.1)]
  F x := f53 x.1 x.2
  ret y := [.raw true [(.d (.int .i64) y.1), (.d (.int .i64) y.2.1), (.d (.int .i64) y.2.2.1), (.d (.int .i64) y.2.2.2.1), (.osl 2), (.osl 3)], .dat .bool y.2.2.2.2.1]
  hout y := [(0, .cells [(.osl 1)]), (1, .arr 132 (.p (.int .i64) (.p (.int .i64) (.p (.int .i64) (.p (.int .i64) (.p (.sl (.int .i64)) (.sl (.int .i64))))))) y.2.2.2.2.2.2.2), (2, .arr 3 (.int .i64) y.2.2.2.2.2.1), (3, .arr 23 (.int .i64) y.2.2.2.2.2.2.1)]
  nout := 4
theorem C53_vc (t_l : List (Int × Int × Int × Int × (List Int) × (List Int))) (n : Int) (y : Int × Int × Int × Int × Bool × (List Int) × (List Int) × (List (Int × Int × Int × Int × (List Int) × (List Int)))) (hF : f53 t_l n = some y) : vc Tryz.prog tab Tryz.f53.ntmps 2 (match Tryz.f53.body with | some c => c | none => .skip) (retK tab C53 Tryz.f53.results.toList y) (C53.shIn (t_l, n)).st := by
  unfold f53 at hF
  refine Or.inl ?_
  refine Or.inl ?_
  refine Or.inl ?_
  obtain ⟨r1, hr1, hF⟩ := bindE hF
  refine Or.inl (And.intro f84_in (callV0 (callI C84 (t_l, n) r1 [(0, some 0), (1, some 1)] false C84_holds hr1 rfl rfl ?_)))
  refine (And.intro rfl (And.intro (fun h => nomatch h) (And.intro rfl (And.intro rfl (And.intro (And.intro rfl trivial) (And.intro (And.intro rfl (And.intro rfl trivial)) ?_))))))
  refine condI hF (fun hF => ?_) (fun hF => ?_)
  · refine Or.inl ?_
    refine Or.inl ?_
    have hy := someE hF
    subst hy
    refine And.intro rfl (Exists.intro [] (Exists.intro [] (Exists.intro [] (Exists.intro [] (Exists.intro [(0, some 0), (1, some 1), (2, none), (3, none)] (And.intro rfl (And.intro rfl (And.intro (And.intro rfl trivial) (And.intro rfl (And.intro rfl (And.intro rfl (And.intro rfl trivial))))))))))))
  · refine Or.inl ?_
    refine guardI hF (fun hF => ?_)
    refine Or.inl ?_
    refine Or.inl ?_
    obtain ⟨r2, hr2, hF⟩ := bindE hF
    refine Or.inl (And.intro f85_in (callV0 (callI C85 ((((((rd (Ty.z (.p (.int .i64) (.p (.int .i64) (.p (.int .i64) (.p (.int .i64) (.p (.sl (.int .i64)) (.sl (.int .i64)))))))) r1.2 n).2).2).2).2).1, (((((rd (Ty.z (.p (.int .i64) (.p (.int .i64) (.p (.int .i64) (.p (.int .i64) (.p (.sl (.int .i64)) (.sl (.int .i64)))))))) r1.2 n).2).2).2).2).2) r2 [] false C85_holds hr2 rfl rfl ?_)))
    refine (And.intro rfl (And.intro rfl (And.intro (fun h => nomatch h) (And.intro rfl (And.intro rfl (And.intro trivial (And.intro trivial ?_)))))))
    refine Or.inl ?_
    refine Or.inl ?_
    refine Or.inl ?_
    have hy := someE hF
    subst hy
    refine And.intro rfl (Exists.intro [] (Exists.intro [] (Exists.intro [] (Exists.intro [] (Exists.intro [(0, some 0), (1, some 1), (2, some 6), (3, some 7)] (And.intro rfl (And.intro rfl (And.intro (And.intro rfl trivial) (And.intro rfl (And.intro rfl (And.intro rfl (And.intro rfl trivial))))))))))))
theorem C53_holds : C53.Holds Tryz.prog 53 := holds_of_vc tab_ok mixed (fn := Tryz.f53) (by kernel_rfl) rfl C53 (fun x y hF => C53_vc x.1 x.2 y hF)
theorem f53_in : ∃ fn, Tryz.prog.funcs[53]? = some fn ∧ fn.body.isSome = true ∧ (fn.name == "runtime.NumGoroutine") = false := ⟨Tryz.f53, by kernel_rfl, by kernel_rfl, by kernel_rfl⟩
end Go.Proofs
namespace Go.Proofs
open Go.AM
-- (*carousel/tape.Tape).Value
def f25 (t_l : List (Int × Int × Int × Int × (List Int) × (List Int))) (n : Int) : Option (Bool × (List Int) × (List Int) × (List (Int × Int × Int × Int × (List Int) × (List Int)))) :=
  bindF (f53 t_l n) fun r1 =>
  some (r1.2.2.2.2.1, r1.2.2.2.2.2.1, r1.2.2.2.2.2.2.1, r1.2.2.2.2.2.2.2)
def C25 : Con where
  X := (List (Int × Int × Int × Int × (List Int) × (List Int))) × Int
  Y := Bool × (List Int) × (List Int) × (List (Int × Int × Int × Int × (List Int) × (List Int)))
  e := 2
  args x := [.raw false [(.ptr 0 0)], .dat (.int .i64) x.2]
  hin x := [(0, .cells [(.osl 1)]), (1, .arr 132 (.p (.int .i64) (.p (.int .i64) (.p (.int .i64) (.p (.int .i64) (.p (.sl (.int .i64)) (.sl (.int .i64))))))) x.1)]
  F x := f25 x.1 x.2
  ret y := [.raw true [(.osl 2), (.osl 3)], .dat .bool y.1]
  hout y := [(0, .cells [(.osl 1)]), (1, .arr 132 (.p (.int .i64) (.p (.int .i64) (.p (.int .i64) (.p (.int .i64) (.p (.sl (.int .i64)) (.sl (.int .i64))))))) y.2.2.2), (2, .arr 3 (.int .i64) y.2.1), (3, .arr 23 (.int .i64) y.2.2.1)]
  nout := 4
theorem C25_vc (t_l : List (Int × Int × Int × Int × (List Int) × (List Int))) (n : Int) (y : Bool × (List Int) × (List Int) × (List (Int × Int × Int × Int × (List Int) × (List Int)))) (hF : f25 t_l n = some y) : vc Tryz.prog tab Tryz.f25.ntmps 2 (match Tryz.f25.body with | some c => c | none => .skip) (retK tab C25 Tryz.f25.results.toList y) (C25.shIn (t_l, n)).st := by
  unfold f25 at hF
  refine Or.inl ?_
  refine Or.inl ?_
  obtain ⟨r1, hr1, hF⟩ := bindE hF
  refine Or.inl (And.intro f53_in (callV0 (callI C53 (t_l, n) r1 [(0, some 0), (1, some 1)] false C53_holds hr1 rfl rfl ?_)))
  refine (And.intro rfl (And.intro (fun h => nomatch h) (And.intro rfl (And.intro rfl (And.intro (And.intro rfl trivial) (And.intro (And.intro rfl (And.intro rfl trivial)) ?_))))))
  refine Or.inl ?_
  refine Or.inl ?_
  refine Or.inl ?_
  have hy := someE hF
  subst hy
  refine And.intro rfl (Exists.intro [] (Exists.intro [] (Exists.intro [] (Exists.intro [] (Exists.intro [(0, some 0), (1, some 1), (2, some 5), (3, some 6)] (And.intro rfl (And.intro rfl (And.intro (And.intro rfl trivial) (And.intro rfl (And.intro rfl (And.intro rfl (And.intro rfl trivial))))))))))))
theorem C25_holds : C25.Holds Tryz.prog 25 := holds_of_vc tab_ok mixed (fn := Tryz.f25) (by kernel_rfl) rfl C25 (fun x y hF => C25_vc x.1 x.2 y hF)
theorem f25_in : ∃ fn, Tryz.prog.funcs[25]? = some fn ∧ fn.body.isSome = true ∧ (fn.name == "runtime.NumGoroutine") = false := ⟨Tryz.f25, by kernel_rfl, by kernel_rfl, by kernel_rfl⟩
end Go.Proofs
namespace Go.Proofs
open Go.AM
-- carousel/loss.may
def f76_j1 (want : List Int) (r1 : Bool × (List Int) × (List Int) × (List (Int × Int × Int × Int × (List Int) × (List Int)))) : Option Bool :=
  bif (!r1.1) then
    some true
  else
    some ((List.length want : Int) != (List.length r1.2.2.1 : Int))
def f76 (t_l : List (Int × Int × Int × Int × (List Int) × (List Int))) (out : Int) (want : List Int) : Option (Int × (List (Int × Int × Int × Int × (List Int) × (List Int)))) :=
  bindF (f25 t_l out) fun r1 =>
  bindF (f76_j1 want r1) fun z2 =>
  bif z2 then
    some ((1 : Int), r1.2.2.2)
  else
    bif ((List.length r1.2.1 : Int) != (1 : Int)) then
      some ((4 : Int), r1.2.2.2)
    else
      some ((0 : Int), r1.2.2.2)
def C76 : Con where
  X := (List (Int × Int × Int × Int × (List Int) × (List Int))) × Int × (List Int)
  Y := Int × (List (Int × Int × Int × Int × (List Int) × (List Int)))
  e := 2
  args x := [.raw false [(.ptr 0 0)], .dat (.int .i64) x.2.1, .dat (.sl (.int .i64)) x.2.2]
  hin x := [(0, .cells [(.osl 1)]), (1, .arr 132 (.p (.int .i64) (.p (.int .i64) (.p (.int .i64) (.p (.int .i64) (.p (.sl (.int .i64)) (.sl (.int .i64))))))) x.1)]
  F x := f76 x.1 x.2.1 x.2.2
  ret y := [.dat (.int .i64) y.1]
  hout y := [(0, .cells [(.osl 1)]), (1, .arr 132 (.p (.int .i64) (.p (.int .i64) (.p (.int .i64) (.p (.int .i64) (.p (.sl (.int .i64)) (.sl (.int .i64))))))) y.2)]
  nout := 2
theorem C76_vc (t_l : List (Int × Int × Int × Int × (List Int) × (List Int))) (out : Int) (want : List Int) (y : Int × (List (Int × Int × Int × Int × (List Int) × (List Int)))) (hF : f76 t_l out want = some y) : vc Tryz.prog tab Tryz.f76.ntmps 2 (match Tryz.f76.body with | some c => c | none => .skip) (retK tab C76 Tryz.f76.results.toList y) (C76.shIn (t_l, out, want)).st := by
  unfold f76 at hF
  refine Or.inl ?_
  refine Or.inl ?_
  obtain ⟨r1, hr1, hF⟩ := bindE hF
  refine Or.inl (And.intro f25_in (callV0 (callI C25 (t_l, out) r1 [(0, some 0), (1, some 1)] false C25_holds hr1 rfl rfl ?_)))
  refine (And.intro rfl (And.intro (fun h => nomatch h) (And.intro rfl (And.intro rfl (And.intro (And.intro rfl trivial) (And.intro (And.intro rfl (And.intro rfl trivial)) ?_))))))
  refine Or.inl ?_
  refine Or.inl ?_
  obtain ⟨z2, hz2, hF⟩ := bindE hF
  refine Or.inr ⟨[(0, ⟨[(7, .raw false [(.ptr 2 0)]), (15, .dat .bool z2)], [(0, .cells [(.osl 1)]), (1, .arr 132 (.p (.int .i64) (.p (.int .i64) (.p (.int .i64) (.p (.int .i64) (.p (.sl (.int .i64)) (.sl (.int .i64))))))) r1.2.2.2), (2, .cells [(.osl 3), (.osl 4)]), (3, .arr 3 (.int .i64) r1.2.1), (4, .arr 23 (.int .i64) r1.2.2.1)], 5⟩)], ?_, ?_⟩
  · have hF := hz2
    clear hz2
    unfold f76_j1 at hF
    refine condN hF (fun hF => ?_) (fun hF => ?_)
    · refine gdYF ?_
      refine gdYF ?_
      refine gdYF ?_
      refine gdYF ?_
      refine gdYF ?_
      refine condF ?_
      have hz := someE hF
      subst hz
      refine Exists.intro [] (Exists.intro [] (Exists.intro [] (Exists.intro [] (Exists.intro [(0, some 0), (1, some 1), (2, some 6), (3, some 4), (4, some 5)] (And.intro rfl (And.intro rfl (And.intro (And.intro rfl trivial) (And.intro rfl (And.intro rfl (And.intro rfl (And.intro rfl (And.intro rfl trivial))))))))))))
    · refine gdNF ?_
      refine gdNF ?_
      refine gdNF ?_
      refine gdNF ?_
      refine gdNF ?_
      refine condT ?_
      have hz := someE hF
      subst hz
      refine Exists.intro [] (Exists.intro [] (Exists.intro [] (Exists.intro [] (Exists.intro [(0, some 0), (1, some 1), (2, some 6), (3, some 4), (4, some 5)] (And.intro rfl (And.intro rfl (And.intro (And.intro rfl trivial) (And.intro rfl (And.intro rfl (And.intro rfl (And.intro rfl (And.intro rfl trivial))))))))))))
  · refine And.intro ?_ trivial
    refine condI hF (fun hF => ?_) (fun hF => ?_)
    · refine Or.inl ?_
      have hy := someE hF
      subst hy
      refine And.intro rfl (Exists.intro [] (Exists.intro [] (Exists.intro [] (Exists.intro [] (Exists.intro [(0, some 0), (1, some 1)] (And.intro rfl (And.intro rfl (And.intro trivial (And.intro rfl (And.intro rfl trivial))))))))))
    · refine Or.inl ?_
      refine condI hF (fun hF => ?_) (fun hF => ?_)
      · refine Or.inl ?_
        have hy := someE hF
        subst hy
        refine And.intro rfl (Exists.intro [] (Exists.intro [] (Exists.intro [] (Exists.intro [] (Exists.intro [(0, some 0), (1, some 1)] (And.intro rfl (And.intro rfl (And.intro trivial (And.intro rfl (And.intro rfl trivial))))))))))
      · refine Or.inl ?_
        have hy := someE hF
        subst hy
        refine And.intro rfl (Exists.intro [] (Exists.intro [] (Exists.intro [] (Exists.intro [] (Exists.intro [(0, some 0), (1, some 1)] (And.intro rfl (And.intro rfl (And.intro trivial (And.intro rfl (And.intro rfl trivial))))))))))
theorem C76_holds : C76.Holds Tryz.prog 76 := holds_of_vc tab_ok mixed (fn := Tryz.f76) (by kernel_rfl) rfl C76 (fun x y hF => C76_vc x.1 x.2.1 x.2.2 y hF)
theorem f76_in : ∃ fn, Tryz.prog.funcs[76]? = some fn ∧ fn.body.isSome = true ∧ (fn.name == "runtime.NumGoroutine") = false := ⟨Tryz.f76, by kernel_rfl, by kernel_rfl, by kernel_rfl⟩
end Go.Proofs
namespace Go.Proofs
open Go.AM
-- carousel/loss.begin
def f77 (t_l : List (Int × Int × Int × Int × (List Int) × (List Int))) : Option (Int × (List (Int × Int × Int × Int × (List Int) × (List Int)))) :=
  bindF (f45 t_l) fun r1 =>
  some (r1.1, r1.2)
def C77 : Con where
  X := List (Int × Int × Int × Int × (List Int) × (List Int))
  Y := Int × (List (Int × Int × Int × Int × (List Int) × (List Int)))
  e := 2
  args x := [.raw false [(.ptr 0 0)]]
  hin x := [(0, .cells [(.osl 1)]), (1, .arr 132 (.p (.int .i64) (.p (.int .i64) (.p (.int .i64) (.p (.int .i64) (.p (.sl (.int .i64)) (.sl (.int .i64))))))) x)]
  F x := f77 x
  ret y := [.raw false [(.ptr 2 0)]]
  hout y := [(0, .cells [(.osl 1)]), (1, .arr 132 (.p (.int .i64) (.p (.int .i64) (.p (.int .i64) (.p (.int .i64) (.p (.sl (.int .i64)) (.sl (.int .i64))))))) y.2), (2, .cells [(.ptr 0 0), (.d (.int .i64) y.1), (.d (.int .i64) (0 : Int))])]
  nout := 3
theorem C77_vc (t_l : List (Int × Int × Int × Int × (List Int) × (List Int))) (y : Int × (List (Int × Int × Int × Int × (List Int) × (List Int)))) (hF : f77 t_l = some y) : vc Tryz.prog tab Tryz.f77.ntmps 2 (match Tryz.f77.body with | some c => c | none => .skip) (retK tab C77 Tryz.f77.results.toList y) (C77.shIn t_l).st := by
  unfold f77 at hF
  refine Or.inl ?_
  refine Or.inl ?_
  obtain ⟨r1, hr1, hF⟩ := bindE hF
  refine Or.inl (And.intro f45_in (callV0 (callI C45 t_l r1 [(0, some 0), (1, some 1)] false C45_holds hr1 rfl rfl ?_)))
  refine (And.intro (fun h => nomatch h) (And.intro rfl (And.intro rfl (And.intro (And.intro rfl trivial) (And.intro (And.intro rfl (And.intro rfl trivial)) ?_)))))
  have hy := someE hF
  subst hy
  refine And.intro rfl (Exists.intro [] (Exists.intro [] (Exists.intro [] (Exists.intro [] (Exists.intro [(0, some 0), (1, some 1), (2, some 4)] (And.intro rfl (And.intro (And.intro rfl trivial) (And.intro rfl (And.intro rfl (And.intro rfl trivial))))))))))
theorem C77_holds : C77.Holds Tryz.prog 77 := holds_of_vc tab_ok mixed (fn := Tryz.f77) (by kernel_rfl) rfl C77 (fun x y hF => C77_vc x y hF)
theorem f77_in : ∃ fn, Tryz.prog.funcs[77]? = some fn ∧ fn.body.isSome = true ∧ (fn.name == "runtime.NumGoroutine") = false := ⟨Tryz.f77, by kernel_rfl, by kernel_rfl, by kernel_rfl⟩
end Go.Proofs
namespace Go.Proofs
open Go.AM
-- (*carousel/loss.steps).leaf
def f79 (s_t_l : List (Int × Int × Int × Int × (List Int) × (List Int))) (s_was : Int) (s_e : Int) (v : List Int) : Option (Int × Int × Int × (List (Int × Int × Int × Int × (List Int) × (List Int)))) :=
  bif (s_e != (0 : Int)) then
    some ((0 : Int), s_was, s_e, s_t_l)
  else
    bindF (f73 s_t_l ([(List.length v : Int)], v)) fun r1 =>
    some (r1.1, s_was, r1.2.1, r1.2.2)
def C79 : Con where
  X := (List (Int × Int × Int × Int × (List Int) × (List Int))) × Int × Int × (List Int)
  Y := Int × Int × Int × (List (Int × Int × Int × Int × (List Int) × (List Int)))
  e := 3
  args x := [.raw false [(.ptr 0 0)], .dat (.sl (.int .i64)) x.2.2.2]
  hin x := [(0, .cells [(.ptr 1 0), (.d (.int .i64) x.2.1), (.d (.int .i64) x.2.2.1)]), (1, .cells [(.osl 2)]), (2, .arr 132 (.p (.int .i64) (.p (.int .i64) (.p (.int .i64) (.p (.int .i64) (.p (.sl (.int .i64)) (.sl (.int .i64))))))) x.1)]
  F x := f79 x.1 x.2.1 x.2.2.1 x.2.2.2
  ret y := [.dat (.int .i64) y.1]
  hout y := [(0, .cells [(.ptr 1 0), (.d (.int .i64) y.2.1), (.d (.int .i64) y.2.2.1)]), (1, .cells [(.osl 3)]), (3, .arr 132 (.p (.int .i64) (.p (.int .i64) (.p (.int .i64) (.p (.int .i64) (.p (.sl (.int .i64)) (.sl (.int .i64))))))) y.2.2.2)]
  nout := 4
theorem C79_vc (s_t_l : List (Int × Int × Int × Int × (List Int) × (List Int))) (s_was : Int) (s_e : Int) (v : List Int) (y : Int × Int × Int × (List (Int × Int × Int × Int × (List Int) × (List Int)))) (hF : f79 s_t_l s_was s_e v = some y) : vc Tryz.prog tab Tryz.f79.ntmps 3 (match Tryz.f79.body with | some c => c | none => .skip) (retK tab C79 Tryz.f79.results.toList y) (C79.shIn (s_t_l, s_was, s_e, v)).st := by
  unfold f79 at hF
  refine Or.inl ?_
  refine Or.inl ?_
  refine Or.inl ?_
  refine condI hF (fun hF => ?_) (fun hF => ?_)
  · refine Or.inl ?_
    have hy := someE hF
    subst hy
    refine And.intro rfl (Exists.intro [] (Exists.intro [] (Exists.intro [] (Exists.intro [] (Exists.intro [(0, some 0), (1, some 1), (3, some 2)] (And.intro rfl (And.intro rfl (And.intro trivial (And.intro rfl (And.intro rfl (And.intro rfl trivial)))))))))))
  · refine Or.inl ?_
    refine Or.inl ?_
    obtain ⟨r1, hr1, hF⟩ := bindE hF
    refine Or.inl (And.intro f73_in (callV0 (callI C73 (s_t_l, ([(List.length v : Int)], v)) r1 [(0, some 1), (1, some 2)] false C73_holds hr1 rfl rfl ?_)))
    refine (And.intro rfl (And.intro rfl (And.intro (fun h => nomatch h) (And.intro rfl (And.intro rfl (And.intro (And.intro rfl trivial) (And.intro (And.intro rfl (And.intro rfl trivial)) ?_)))))))
    refine Or.inl ?_
    refine Or.inl ?_
    refine Or.inl ?_
    have hy := someE hF
    subst hy
    refine And.intro rfl (Exists.intro [] (Exists.intro [] (Exists.intro [] (Exists.intro [] (Exists.intro [(0, some 0), (1, some 1), (3, some 6)] (And.intro rfl (And.intro rfl (And.intro trivial (And.intro rfl (And.intro rfl (And.intro rfl trivial)))))))))))
theorem C79_holds : C79.Holds Tryz.prog 79 := holds_of_vc tab_ok mixed (fn := Tryz.f79) (by kernel_rfl) rfl C79 (fun x y hF => C79_vc x.1 x.2.1 x.2.2.1 x.2.2.2 y hF)
theorem f79_in : ∃ fn, Tryz.prog.funcs[79]? = some fn ∧ fn.body.isSome = true ∧ (fn.name == "runtime.NumGoroutine") = false := ⟨Tryz.f79, by kernel_rfl, by kernel_rfl, by kernel_rfl⟩
end Go.Proofs
namespace Go.Proofs
open Go.AM
-- (*carousel/loss.steps).do
def f78 (s_t_l : List (Int × Int × Int × Int × (List Int) × (List Int))) (s_was : Int) (s_e : Int) (op : Int) (a : Int) (b : Int) (k : Int) : Option (Int × Int × Int × (List (Int × Int × Int × Int × (List Int) × (List Int)))) :=
  bif (s_e != (0 : Int)) then
    some ((0 : Int), s_was, s_e, s_t_l)
  else
    bindF (f105 s_t_l op a b k) fun r1 =>
    some (r1.1, s_was, r1.2.1, r1.2.2)
def C78 : Con where
  X := (List (Int × Int × Int × Int × (List Int) × (List Int))) × Int × Int × Int × Int × Int × Int
  Y := Int × Int × Int × (List (Int × Int × Int × Int × (List Int) × (List Int)))
  e := 3
  args x := [.raw false [(.ptr 0 0)], .dat (.int .i64) x.2.2.2.1, .dat (.int .i64) x.2.2.2.2.1, .dat (.int .i64) x.2.2.2.2.2.1, .dat (.int .i64) x.2.2.2.2.2.2]
  hin x := [(0, .cells [(.ptr 1 0), (.d (.int .i64) x.2.1), (.d (.int .i64) x.2.2.1)]), (1, .cells [(.osl 2)]), (2, .arr 132 (.p (.int .i64) (.p (.int .i64) (.p (.int .i64) (.p (.int .i64) (.p (.sl (.int .i64)) (.sl (.int .i64))))))) x.1)]
  F x := f78 x.1 x.2.1 x.2.2.1 x.2.2.2.1 x.2.2.2.2.1 x.2.2.2.2.2.1 x.2.2.2.2.2.2
  ret y := [.dat (.int .i64) y.1]
  hout y := [(0, .cells [(.ptr 1 0), (.d (.int .i64) y.2.1), (.d (.int .i64) y.2.2.1)]), (1, .cells [(.osl 3)]), (3, .arr 132 (.p (.int .i64) (.p (.int .i64) (.p (.int .i64) (.p (.int .i64) (.p (.sl (.int .i64)) (.sl (.int .i64))))))) y.2.2.2)]
  nout := 4
theorem C78_vc (s_t_l : List (Int × Int × Int × Int × (List Int) × (List Int))) (s_was : Int) (s_e : Int) (op : Int) (a : Int) (b : Int) (k : Int) (y : Int × Int × Int × (List (Int × Int × Int × Int × (List Int) × (List Int)))) (hF : f78 s_t_l s_was s_e op a b k = some y) : vc Tryz.prog tab Tryz.f78.ntmps 3 (match Tryz.f78.body with | some c => c | none => .skip) (retK tab C78 Tryz.f78.results.toList y) (C78.shIn (s_t_l, s_was, s_e, op, a, b, k)).st := by
  unfold f78 at hF
  refine Or.inl ?_
  refine Or.inl ?_
  refine Or.inl ?_
  refine condI hF (fun hF => ?_) (fun hF => ?_)
  · refine Or.inl ?_
    have hy := someE hF
    subst hy
    refine And.intro rfl (Exists.intro [] (Exists.intro [] (Exists.intro [] (Exists.intro [] (Exists.intro [(0, some 0), (1, some 1), (3, some 2)] (And.intro rfl (And.intro rfl (And.intro trivial (And.intro rfl (And.intro rfl (And.intro rfl trivial)))))))))))
  · refine Or.inl ?_
    obtain ⟨r1, hr1, hF⟩ := bindE hF
    refine Or.inl (And.intro f105_in (callV0 (callI C105 (s_t_l, op, a, b, k) r1 [(0, some 1), (1, some 2)] false C105_holds hr1 rfl rfl ?_)))
    refine (And.intro rfl (And.intro rfl (And.intro rfl (And.intro rfl (And.intro (fun h => nomatch h) (And.intro rfl (And.intro rfl (And.intro (And.intro rfl trivial) (And.intro (And.intro rfl (And.intro rfl trivial)) ?_)))))))))
    refine Or.inl ?_
    refine Or.inl ?_
    refine Or.inl ?_
    have hy := someE hF
    subst hy
    refine And.intro rfl (Exists.intro [] (Exists.intro [] (Exists.intro [] (Exists.intro [] (Exists.intro [(0, some 0), (1, some 1), (3, some 5)] (And.intro rfl (And.intro rfl (And.intro trivial (And.intro rfl (And.intro rfl (And.intro rfl trivial)))))))))))
theorem C78_holds : C78.Holds Tryz.prog 78 := holds_of_vc tab_ok mixed (fn := Tryz.f78) (by kernel_rfl) rfl C78 (fun x y hF => C78_vc x.1 x.2.1 x.2.2.1 x.2.2.2.1 x.2.2.2.2.1 x.2.2.2.2.2.1 x.2.2.2.2.2.2 y hF)
theorem f78_in : ∃ fn, Tryz.prog.funcs[78]? = some fn ∧ fn.body.isSome = true ∧ (fn.name == "runtime.NumGoroutine") = false := ⟨Tryz.f78, by kernel_rfl, by kernel_rfl, by kernel_rfl⟩
end Go.Proofs
namespace Go.Proofs
open Go.AM
-- (*carousel/loss.steps).told
def f80 (s_t_l : List (Int × Int × Int × Int × (List Int) × (List Int))) (s_was : Int) (s_e : Int) (n : Int) : Option (Int × Int × Int × Int × (List (Int × Int × Int × Int × (List Int) × (List Int)))) :=
  bif (s_e != (0 : Int)) then
    bindF (f48 s_t_l s_was) fun q2_8 =>
    some ((0 : Int), s_e, s_was, s_e, q2_8)
  else
    some (n, (0 : Int), s_was, s_e, s_t_l)
def C80 : Con where
  X := (List (Int × Int × Int × Int × (List Int) × (List Int))) × Int × Int × Int
  Y := Int × Int × Int × Int × (List (Int × Int × Int × Int × (List Int) × (List Int)))
  e := 3
  args x := [.raw false [(.ptr 0 0)], .dat (.int .i64) x.2.2.2]
  hin x := [(0, .cells [(.ptr 1 0), (.d (.int .i64) x.2.1), (.d (.int .i64) x.2.2.1)]), (1, .cells [(.osl 2)]), (2, .arr 132 (.p (.int .i64) (.p (.int .i64) (.p (.int .i64) (.p (.int .i64) (.p (.sl (.int .i64)) (.sl (.int .i64))))))) x.1)]
  F x := f80 x.1 x.2.1 x.2.2.1 x.2.2.2
  ret y := [.dat (.int .i64) y.1, .dat (.int .i64) y.2.1]
  hout y := [(0, .cells [(.ptr 1 0), (.d (.int .i64) y.2.2.1), (.d (.int .i64) y.2.2.2.1)]), (1, .cells [(.osl 3)]), (3, .arr 132 (.p (.int .i64) (.p (.int .i64) (.p (.int .i64) (.p (.int .i64) (.p (.sl (.int .i64)) (.sl (.int .i64))))))) y.2.2.2.2)]
  nout := 4
theorem C80_vc (s_t_l : List (Int × Int × Int × Int × (List Int) × (List Int))) (s_was : Int) (s_e : Int) (n : Int) (y : Int × Int × Int × Int × (List (Int × Int × Int × Int × (List Int) × (List Int)))) (hF : f80 s_t_l s_was s_e n = some y) : vc Tryz.prog tab Tryz.f80.ntmps 3 (match Tryz.f80.body with | some c => c | none => .skip) (retK tab C80 Tryz.f80.results.toList y) (C80.shIn (s_t_l, s_was, s_e, n)).st := by
  unfold f80 at hF
  refine Or.inl ?_
  refine Or.inl ?_
  refine Or.inl ?_
  refine condI hF (fun hF => ?_) (fun hF => ?_)
  · refine Or.inl ?_
    refine Exists.intro (.take 0 (.take 1 (.take 2 (.take 3 (.take 4 (.take 5 (.take 6 (.take 7 (.alt 8 .done .done))))))))) (Exists.intro [] (Exists.intro [] (And.intro rfl ?_)))
    refine And.intro trivial ?_
    obtain ⟨q2_8, hq2_8, hF⟩ := bindE hF
    refine Or.inl (And.intro f48_in (callV0 (callI C48 (s_t_l, s_was) q2_8 [(0, some 1), (1, some 2)] false C48_holds hq2_8 rfl rfl ?_)))
    refine (And.intro rfl (And.intro (fun h => nomatch h) (And.intro rfl (And.intro rfl (And.intro (And.intro rfl trivial) (And.intro (And.intro rfl (And.intro rfl trivial)) ?_))))))
    refine Or.inl ?_
    refine Exists.intro (.take 0 (.take 1 (.take 2 (.take 3 (.take 4 (.take 5 .done)))))) (Exists.intro [] (Exists.intro [] (And.intro rfl ?_)))
    have hy := someE hF
    subst hy
    refine And.intro rfl (Exists.intro [] (Exists.intro [] (Exists.intro [] (Exists.intro [] (Exists.intro [(0, some 0), (1, some 1), (3, some 5)] (And.intro rfl (And.intro rfl (And.intro rfl (And.intro trivial (And.intro rfl (And.intro rfl (And.intro rfl trivial))))))))))))
  · refine Or.inl ?_
    have hy := someE hF
    subst hy
    refine And.intro rfl (Exists.intro [] (Exists.intro [] (Exists.intro [] (Exists.intro [] (Exists.intro [(0, some 0), (1, some 1), (3, some 2)] (And.intro rfl (And.intro rfl (And.intro rfl (And.intro trivial (And.intro rfl (And.intro rfl (And.intro rfl trivial))))))))))))
theorem C80_holds : C80.Holds Tryz.prog 80 := holds_of_vc tab_ok mixed (fn := Tryz.f80) (by kernel_rfl) rfl C80 (fun x y hF => C80_vc x.1 x.2.1 x.2.2.1 x.2.2.2 y hF)
theorem f80_in : ∃ fn, Tryz.prog.funcs[80]? = some fn ∧ fn.body.isSome = true ∧ (fn.name == "runtime.NumGoroutine") = false := ⟨Tryz.f80, by kernel_rfl, by kernel_rfl, by kernel_rfl⟩
end Go.Proofs
namespace Go.Proofs
open Go.AM
-- carousel/loss.Square
def f49 (t_l : List (Int × Int × Int × Int × (List Int) × (List Int))) (out : Int) (want : List Int) : Option (Int × Int × (List (Int × Int × Int × Int × (List Int) × (List Int)))) :=
  bindF (f76 t_l out want) fun r1 =>
  bif (r1.1 != (0 : Int)) then
    some ((0 : Int), r1.1, r1.2)
  else
    bindF (f77 r1.2) fun r2 =>
    bindF (f79 r2.2 r2.1 (0 : Int) want) fun r3 =>
    bindF (f78 r3.2.2.2 r3.2.1 r3.2.2.1 (3 : Int) out r3.1 (0 : Int)) fun r4 =>
    bindF (f78 r4.2.2.2 r4.2.1 r4.2.2.1 (4 : Int) r4.1 r4.1 (0 : Int)) fun r5 =>
    bindF (f78 r5.2.2.2 r5.2.1 r5.2.2.1 (10 : Int) r5.1 (0 : Int) (0 : Int)) fun r6 =>
    bindF (f80 r6.2.2.2 r6.2.1 r6.2.2.1 r6.1) fun r7 =>
    some (r7.1, r7.2.1, r7.2.2.2.2)
def C49 : Con where
  X := (List (Int × Int × Int × Int × (List Int) × (List Int))) × Int × (List Int)
  Y := Int × Int × (List (Int × Int × Int × Int × (List Int) × (List Int)))
  e := 2
  args x := [.raw false [(.ptr 0 0)], .dat (.int .i64) x.2.1, .dat (.sl (.int .i64)) x.2.2]
  hin x := [(0, .cells [(.osl 1)]), (1, .arr 132 (.p (.int .i64) (.p (.int .i64) (.p (.int .i64) (.p (.int .i64) (.p (.sl (.int .i64)) (.sl (.int .i64))))))) x.1)]
  F x := f49 x.1 x.2.1 x.2.2
  ret y := [.dat (.int .i64) y.1, .dat (.int .i64) y.2.1]
  hout y := [(0, .cells [(.osl 2)]), (2, .arr 132 (.p (.int .i64) (.p (.int .i64) (.p (.int .i64) (.p (.int .i64) (.p (.sl (.int .i64)) (.sl (.int .i64))))))) y.2.2)]
  nout := 3
theorem C49_vc (t_l : List (Int × Int × Int × Int × (List Int) × (List Int))) (out : Int) (want : List Int) (y : Int × Int × (List (Int × Int × Int × Int × (List Int) × (List Int)))) (hF : f49 t_l out want = some y) : vc Tryz.prog tab Tryz.f49.ntmps 2 (match Tryz.f49.body with | some c => c | none => .skip) (retK tab C49 Tryz.f49.results.toList y) (C49.shIn (t_l, out, want)).st := by
  unfold f49 at hF
  refine Or.inl ?_
  refine Or.inl ?_
  refine Or.inl ?_
  obtain ⟨r1, hr1, hF⟩ := bindE hF
  refine Or.inl (And.intro f76_in (callV0 (callI C76 (t_l, out, want) r1 [(0, some 0), (1, some 1)] false C76_holds hr1 rfl rfl ?_)))
  refine (And.intro rfl (And.intro rfl (And.intro (fun h => nomatch h) (And.intro rfl (And.intro rfl (And.intro (And.intro rfl trivial) (And.intro (And.intro rfl (And.intro rfl trivial)) ?_)))))))
  refine Or.inl ?_
  refine condI hF (fun hF => ?_) (fun hF => ?_)
  · refine Or.inl ?_
    have hy := someE hF
    subst hy
    refine And.intro rfl (Exists.intro [] (Exists.intro [] (Exists.intro [] (Exists.intro [] (Exists.intro [(0, some 0), (2, some 1)] (And.intro rfl (And.intro rfl (And.intro rfl (And.intro trivial (And.intro rfl (And.intro rfl trivial)))))))))))
  · refine Or.inl ?_
    obtain ⟨r2, hr2, hF⟩ := bindE hF
    refine Or.inl (And.intro f77_in (callV0 (callI C77 r1.2 r2 [(0, some 0), (1, some 1)] false C77_holds hr2 rfl rfl ?_)))
    refine (And.intro (fun h => nomatch h) (And.intro rfl (And.intro rfl (And.intro (And.intro rfl trivial) (And.intro (And.intro rfl (And.intro rfl trivial)) ?_)))))
    refine Or.inl ?_
    obtain ⟨r3, hr3, hF⟩ := bindE hF
    refine Or.inl (And.intro f79_in (callV0 (callI C79 (r2.2, r2.1, (0 : Int), want) r3 [(0, some 6), (1, some 0), (2, some 1)] false C79_holds hr3 rfl rfl ?_)))
    refine (And.intro rfl (And.intro (fun h => nomatch h) (And.intro rfl (And.intro rfl (And.intro (And.intro rfl trivial) (And.intro (And.intro rfl (And.intro rfl (And.intro rfl trivial))) ?_))))))
    obtain ⟨r4, hr4, hF⟩ := bindE hF
    refine Or.inl (And.intro f78_in (callV0 (callI C78 (r3.2.2.2, r3.2.1, r3.2.2.1, (3 : Int), out, r3.1, (0 : Int)) r4 [(0, some 6), (1, some 0), (2, some 10)] false C78_holds hr4 rfl rfl ?_)))
    refine (And.intro rfl (And.intro rfl (And.intro rfl (And.intro rfl (And.intro (fun h => nomatch h) (And.intro rfl (And.intro rfl (And.intro (And.intro rfl trivial) (And.intro (And.intro rfl (And.intro rfl (And.intro rfl trivial))) ?_)))))))))
    refine Or.inl ?_
    obtain ⟨r5, hr5, hF⟩ := bindE hF
    refine Or.inl (And.intro f78_in (callV0 (callI C78 (r4.2.2.2, r4.2.1, r4.2.2.1, (4 : Int), r4.1, r4.1, (0 : Int)) r5 [(0, some 6), (1, some 0), (2, some 14)] false C78_holds hr5 rfl rfl ?_)))
    refine (And.intro rfl (And.intro rfl (And.intro rfl (And.intro rfl (And.intro (fun h => nomatch h) (And.intro rfl (And.intro rfl (And.intro (And.intro rfl trivial) (And.intro (And.intro rfl (And.intro rfl (And.intro rfl trivial))) ?_)))))))))
    obtain ⟨r6, hr6, hF⟩ := bindE hF
    refine Or.inl (And.intro f78_in (callV0 (callI C78 (r5.2.2.2, r5.2.1, r5.2.2.1, (10 : Int), r5.1, (0 : Int), (0 : Int)) r6 [(0, some 6), (1, some 0), (2, some 18)] false C78_holds hr6 rfl rfl ?_)))
    refine (And.intro rfl (And.intro rfl (And.intro rfl (And.intro rfl (And.intro (fun h => nomatch h) (And.intro rfl (And.intro rfl (And.intro (And.intro rfl trivial) (And.intro (And.intro rfl (And.intro rfl (And.intro rfl trivial))) ?_)))))))))
    obtain ⟨r7, hr7, hF⟩ := bindE hF
    refine Or.inl (And.intro f80_in (callV0 (callI C80 (r6.2.2.2, r6.2.1, r6.2.2.1, r6.1) r7 [(0, some 6), (1, some 0), (2, some 22)] false C80_holds hr7 rfl rfl ?_)))
    refine (And.intro rfl (And.intro (fun h => nomatch h) (And.intro rfl (And.intro rfl (And.intro (And.intro rfl trivial) (And.intro (And.intro rfl (And.intro rfl (And.intro rfl trivial))) ?_))))))
    have hy := someE hF
    subst hy
    refine And.intro rfl (Exists.intro [] (Exists.intro [] (Exists.intro [] (Exists.intro [] (Exists.intro [(0, some 0), (2, some 26)] (And.intro rfl (And.intro rfl (And.intro rfl (And.intro trivial (And.intro rfl (And.intro rfl trivial)))))))))))
theorem C49_holds : C49.Holds Tryz.prog 49 := holds_of_vc tab_ok mixed (fn := Tryz.f49) (by kernel_rfl) rfl C49 (fun x y hF => C49_vc x.1 x.2.1 x.2.2 y hF)
theorem f49_in : ∃ fn, Tryz.prog.funcs[49]? = some fn ∧ fn.body.isSome = true ∧ (fn.name == "runtime.NumGoroutine") = false := ⟨Tryz.f49, by kernel_rfl, by kernel_rfl, by kernel_rfl⟩
end Go.Proofs
namespace Go.Proofs
open Go.AM
-- carousel/loss.Size
def f50 (t_l : List (Int × Int × Int × Int × (List Int) × (List Int))) (out : Int) (want : List Int) : Option (Int × Int × (List (Int × Int × Int × Int × (List Int) × (List Int)))) :=
  bindF (f76 t_l out want) fun r1 =>
  bif (r1.1 != (0 : Int)) then
    some ((0 : Int), r1.1, r1.2)
  else
    bindF (f77 r1.2) fun r2 =>
    bindF (f79 r2.2 r2.1 (0 : Int) want) fun r3 =>
    bindF (f78 r3.2.2.2 r3.2.1 r3.2.2.1 (3 : Int) out r3.1 (0 : Int)) fun r4 =>
    bindF (f78 r4.2.2.2 r4.2.1 r4.2.2.1 (11 : Int) r4.1 (0 : Int) (4 : Int)) fun r5 =>
    bindF (f78 r5.2.2.2 r5.2.1 r5.2.2.1 (10 : Int) r5.1 (0 : Int) (0 : Int)) fun r6 =>
    bindF (f80 r6.2.2.2 r6.2.1 r6.2.2.1 r6.1) fun r7 =>
    some (r7.1, r7.2.1, r7.2.2.2.2)
def C50 : Con where
  X := (List (Int × Int × Int × Int × (List Int) × (List Int))) × Int × (List Int)
  Y := Int × Int × (List (Int × Int × Int × Int × (List Int) × (List Int)))
  e := 2
  args x := [.raw false [(.ptr 0 0)], .dat (.int .i64) x.2.1, .dat (.sl (.int .i64)) x.2.2]
  hin x := [(0, .cells [(.osl 1)]), (1, .arr 132 (.p (.int .i64) (.p (.int .i64) (.p (.int .i64) (.p (.int .i64) (.p (.sl (.int .i64)) (.sl (.int .i64))))))) x.1)]
  F x := f50 x.1 x.2.1 x.2.2
  ret y := [.dat (.int .i64) y.1, .dat (.int .i64) y.2.1]
  hout y := [(0, .cells [(.osl 2)]), (2, .arr 132 (.p (.int .i64) (.p (.int .i64) (.p (.int .i64) (.p (.int .i64) (.p (.sl (.int .i64)) (.sl (.int .i64))))))) y.2.2)]
  nout := 3
theorem C50_vc (t_l : List (Int × Int × Int × Int × (List Int) × (List Int))) (out : Int) (want : List Int) (y : Int × Int × (List (Int × Int × Int × Int × (List Int) × (List Int)))) (hF : f50 t_l out want = some y) : vc Tryz.prog tab Tryz.f50.ntmps 2 (match Tryz.f50.body with | some c => c | none => .skip) (retK tab C50 Tryz.f50.results.toList y) (C50.shIn (t_l, out, want)).st := by
  unfold f50 at hF
  refine Or.inl ?_
  refine Or.inl ?_
  refine Or.inl ?_
  obtain ⟨r1, hr1, hF⟩ := bindE hF
  refine Or.inl (And.intro f76_in (callV0 (callI C76 (t_l, out, want) r1 [(0, some 0), (1, some 1)] false C76_holds hr1 rfl rfl ?_)))
  refine (And.intro rfl (And.intro rfl (And.intro (fun h => nomatch h) (And.intro rfl (And.intro rfl (And.intro (And.intro rfl trivial) (And.intro (And.intro rfl (And.intro rfl trivial)) ?_)))))))
  refine Or.inl ?_
  refine condI hF (fun hF => ?_) (fun hF => ?_)
  · refine Or.inl ?_
    have hy := someE hF
    subst hy
    refine And.intro rfl (Exists.intro [] (Exists.intro [] (Exists.intro [] (Exists.intro [] (Exists.intro [(0, some 0), (2, some 1)] (And.intro rfl (And.intro rfl (And.intro rfl (And.intro trivial (And.intro rfl (And.intro rfl trivial)))))))))))
  · refine Or.inl ?_
    obtain ⟨r2, hr2, hF⟩ := bindE hF
    refine Or.inl (And.intro f77_in (callV0 (callI C77 r1.2 r2 [(0, some 0), (1, some 1)] false C77_holds hr2 rfl rfl ?_)))
    refine (And.intro (fun h => nomatch h) (And.intro rfl (And.intro rfl (And.intro (And.intro rfl trivial) (And.intro (And.intro rfl (And.intro rfl trivial)) ?_)))))
    refine Or.inl ?_
    obtain ⟨r3, hr3, hF⟩ := bindE hF
    refine Or.inl (And.intro f79_in (callV0 (callI C79 (r2.2, r2.1, (0 : Int), want) r3 [(0, some 6), (1, some 0), (2, some 1)] false C79_holds hr3 rfl rfl ?_)))
    refine (And.intro rfl (And.intro (fun h => nomatch h) (And.intro rfl (And.intro rfl (And.intro (And.intro rfl trivial) (And.intro (And.intro rfl (And.intro rfl (And.intro rfl trivial))) ?_))))))
    obtain ⟨r4, hr4, hF⟩ := bindE hF
    refine Or.inl (And.intro f78_in (callV0 (callI C78 (r3.2.2.2, r3.2.1, r3.2.2.1, (3 : Int), out, r3.1, (0 : Int)) r4 [(0, some 6), (1, some 0), (2, some 10)] false C78_holds hr4 rfl rfl ?_)))
    refine (And.intro rfl (And.intro rfl (And.intro rfl (And.intro rfl (And.intro (fun h => nomatch h) (And.intro rfl (And.intro rfl (And.intro (And.intro rfl trivial) (And.intro (And.intro rfl (And.intro rfl (And.intro rfl trivial))) ?_)))))))))
    refine Or.inl ?_
    obtain ⟨r5, hr5, hF⟩ := bindE hF
    refine Or.inl (And.intro f78_in (callV0 (callI C78 (r4.2.2.2, r4.2.1, r4.2.2.1, (11 : Int), r4.1, (0 : Int), (4 : Int)) r5 [(0, some 6), (1, some 0), (2, some 14)] false C78_holds hr5 rfl rfl ?_)))
    refine (And.intro rfl (And.intro rfl (And.intro rfl (And.intro rfl (And.intro (fun h => nomatch h) (And.intro rfl (And.intro rfl (And.intro (And.intro rfl trivial) (And.intro (And.intro rfl (And.intro rfl (And.intro rfl trivial))) ?_)))))))))
    obtain ⟨r6, hr6, hF⟩ := bindE hF
    refine Or.inl (And.intro f78_in (callV0 (callI C78 (r5.2.2.2, r5.2.1, r5.2.2.1, (10 : Int), r5.1, (0 : Int), (0 : Int)) r6 [(0, some 6), (1, some 0), (2, some 18)] false C78_holds hr6 rfl rfl ?_)))
    refine (And.intro rfl (And.intro rfl (And.intro rfl (And.intro rfl (And.intro (fun h => nomatch h) (And.intro rfl (And.intro rfl (And.intro (And.intro rfl trivial) (And.intro (And.intro rfl (And.intro rfl (And.intro rfl trivial))) ?_)))))))))
    obtain ⟨r7, hr7, hF⟩ := bindE hF
    refine Or.inl (And.intro f80_in (callV0 (callI C80 (r6.2.2.2, r6.2.1, r6.2.2.1, r6.1) r7 [(0, some 6), (1, some 0), (2, some 22)] false C80_holds hr7 rfl rfl ?_)))
    refine (And.intro rfl (And.intro (fun h => nomatch h) (And.intro rfl (And.intro rfl (And.intro (And.intro rfl trivial) (And.intro (And.intro rfl (And.intro rfl (And.intro rfl trivial))) ?_))))))
    have hy := someE hF
    subst hy
    refine And.intro rfl (Exists.intro [] (Exists.intro [] (Exists.intro [] (Exists.intro [] (Exists.intro [(0, some 0), (2, some 26)] (And.intro rfl (And.intro rfl (And.intro rfl (And.intro trivial (And.intro rfl (And.intro rfl trivial)))))))))))
theorem C50_holds : C50.Holds Tryz.prog 50 := holds_of_vc tab_ok mixed (fn := Tryz.f50) (by kernel_rfl) rfl C50 (fun x y hF => C50_vc x.1 x.2.1 x.2.2 y hF)
theorem f50_in : ∃ fn, Tryz.prog.funcs[50]? = some fn ∧ fn.body.isSome = true ∧ (fn.name == "runtime.NumGoroutine") = false := ⟨Tryz.f50, by kernel_rfl, by kernel_rfl, by kernel_rfl⟩
end Go.Proofs
namespace Go.Proofs
open Go.AM
-- carousel/loss.Hinge
def f51_j1 (class_ : Int) (r1 : Bool × (List Int) × (List Int) × (List (Int × Int × Int × Int × (List Int) × (List Int)))) : Option (Sum Unit Int) :=
  bif (!r1.1) then
    some (Sum.inr (1 : Int))
  else
    bif ((List.length r1.2.1 : Int) != (1 : Int)) then
      some (Sum.inr (4 : Int))
    else
      bif (decide (class_ < (0 : Int))) then
        some (Sum.inr (4 : Int))
      else
        bif (decide (class_ ≥ (List.length r1.2.2.1 : Int))) then
          some (Sum.inr (4 : Int))
        else
          some (Sum.inl ())
def f51 (t_l : List (Int × Int × Int × Int × (List Int) × (List Int))) (out : Int) (class_ : Int) : Option (Int × Int × (List (Int × Int × Int × Int × (List Int) × (List Int)))) :=
  bindF (f25 t_l out) fun r1 =>
  bindF (f51_j1 class_ r1) fun z2 =>
  sumF z2 (fun z2a =>
    bindF (f52 r1.2.1 (0 : Int)) fun r3 =>
    bindF (f81 ([(4294967296 : Int)]) (List.length r1.2.2.1 : Int)) fun r4 =>
    guardF (0 ≤ class_ ∧ class_ < (List.length r3.2.2 : Int)) <|
    guardF (0 ≤ class_ ∧ class_ < (List.length r4 : Int)) <|
    bindF (f77 r1.2.2.2) fun r5 =>
    bindF (f79 r5.2 r5.1 (0 : Int) (List.set r3.2.2 (Int.toNat class_) (-4294967296 : Int))) fun r6 =>
    bindF (f79 r6.2.2.2 r6.2.1 r6.2.2.1 (List.set r4 (Int.toNat class_) (0 : Int))) fun r7 =>
    bindF (f78 r7.2.2.2 r7.2.1 r7.2.2.1 (4 : Int) out r6.1 (0 : Int)) fun r8 =>
    bindF (f78 r8.2.2.2 r8.2.1 r8.2.2.1 (9 : Int) r8.1 (0 : Int) (0 : Int)) fun r9 =>
    bindF (f78 r9.2.2.2 r9.2.1 r9.2.2.1 (2 : Int) out r9.1 (0 : Int)) fun r10 =>
    bindF (f78 r10.2.2.2 r10.2.1 r10.2.2.1 (2 : Int) r10.1 r7.1 (0 : Int)) fun r11 =>
    bindF (f78 r11.2.2.2 r11.2.1 r11.2.2.1 (11 : Int) r11.1 (0 : Int) (1 : Int)) fun r12 =>
    bindF (f78 r12.2.2.2 r12.2.1 r12.2.2.1 (4 : Int) r12.1 r7.1 (0 : Int)) fun r13 =>
    bindF (f78 r13.2.2.2 r13.2.1 r13.2.2.1 (9 : Int) r13.1 (0 : Int) (0 : Int)) fun r14 =>
    bindF (f80 r14.2.2.2 r14.2.1 r14.2.2.1 r14.1) fun r15 =>
    some (r15.1, r15.2.1, r15.2.2.2.2)) (fun z2b =>
    some ((0 : Int), z2b, r1.2.2.2))
def C51 : Con where
  X := (List (Int × Int × Int × Int × (List Int) × (List Int))) × Int × Int
  Y := Int × Int × (List (Int × Int × Int × Int × (List Int) × (List Int)))
  e := 2
  args x := [.raw false [(.ptr 0 0)], .dat (.int .i64) x.2.1, .dat (.int .i64) x.2.2]
  hin x := [(0, .cells [(.osl 1)]), (1, .arr 132 (.p (.int .i64) (.p (.int .i64) (.p (.int .i64) (.p (.int .i64) (.p (.sl (.int .i64)) (.sl (.int .i64))))))) x.1)]
  F x := f51 x.1 x.2.1 x.2.2
  ret y := [.dat (.int .i64) y.1, .dat (.int .i64) y.2.1]
  hout y := [(0, .cells [(.osl 2)]), (2, .arr 132 (.p (.int .i64) (.p (.int .i64) (.p (.int .i64) (.p (.int .i64) (.p (.sl (.int .i64)) (.sl (.int .i64))))))) y.2.2)]
  nout := 3
theorem C51_vc (t_l : List (Int × Int × Int × Int × (List Int) × (List Int))) (out : Int) (class_ : Int) (y : Int × Int × (List (Int × Int × Int × Int × (List Int) × (List Int)))) (hF : f51 t_l out class_ = some y) : vc Tryz.prog tab Tryz.f51.ntmps 2 (match Tryz.f51.body with | some c => c | none => .skip) (retK tab C51 Tryz.f51.results.toList y) (C51.shIn (t_l, out, class_)).st := by
  unfold f51 at hF
  refine Or.inl ?_
  refine Or.inl ?_
  obtain ⟨r1, hr1, hF⟩ := bindE hF
  refine Or.inl (And.intro f25_in (callV0 (callI C25 (t_l, out) r1 [(0, some 0), (1, some 1)] false C25_holds hr1 rfl rfl ?_)))
  refine (And.intro rfl (And.intro (fun h => nomatch h) (And.intro rfl (And.intro rfl (And.intro (And.intro rfl trivial) (And.intro (And.intro rfl (And.intro rfl trivial)) ?_))))))
  refine Or.inl ?_
  obtain ⟨z2, hz2, hF⟩ := bindE hF
  refine Or.inr ⟨Sum.elim (fun z2a => [(0, ⟨[(0, .raw false [(.ptr 0 0)]), (1, .dat (.int .i64) out), (2, .dat (.int .i64) class_), (8, .raw false [(.ptr 2 0)])], [(0, .cells [(.osl 1)]), (1, .arr 132 (.p (.int .i64) (.p (.int .i64) (.p (.int .i64) (.p (.int .i64) (.p (.sl (.int .i64)) (.sl (.int .i64))))))) r1.2.2.2), (2, .cells [(.osl 3), (.osl 4)]), (3, .arr 3 (.int .i64) r1.2.1), (4, .arr 23 (.int .i64) r1.2.2.1)], 5⟩)]) (fun z2b => [(1, ⟨[(6, .dat (.int .i64) (0 : Int)), (7, .dat (.int .i64) z2b)], [(0, .cells [(.osl 1)]), (1, .arr 132 (.p (.int .i64) (.p (.int .i64) (.p (.int .i64) (.p (.int .i64) (.p (.sl (.int .i64)) (.sl (.int .i64))))))) r1.2.2.2)], 2⟩)]) z2, ?_, ?_⟩
  · have hF := hz2
    clear hz2
    unfold f51_j1 at hF
    refine Or.inl ?_
    refine condI hF (fun hF => ?_) (fun hF => ?_)
    · refine Or.inl ?_
      have hz := someE hF
      subst hz
      refine Exists.intro [] (Exists.intro [] (Exists.intro [] (Exists.intro [] (Exists.intro [(0, some 0), (1, some 1)] (And.intro rfl (And.intro rfl (And.intro rfl (And.intro trivial (And.intro rfl (And.intro rfl trivial))))))))))
    · refine Or.inl ?_
      refine condN hF (fun hF => ?_) (fun hF => ?_)
      · refine gdYF ?_
        refine condF ?_
        refine condN hF (fun hF => ?_) (fun hF => ?_)
        · refine gdYF ?_
          refine gdYF ?_
          refine gdYF ?_
          refine gdYF ?_
          refine condF ?_
          refine condI hF (fun hF => ?_) (fun hF => ?_)
          · refine Or.inl ?_
            have hz := someE hF
            subst hz
            refine Exists.intro [] (Exists.intro [] (Exists.intro [] (Exists.intro [] (Exists.intro [(0, some 0), (1, some 1)] (And.intro rfl (And.intro rfl (And.intro rfl (And.intro trivial (And.intro rfl (And.intro rfl trivial))))))))))
          · have hz := someE hF
            subst hz
            refine Exists.intro [] (Exists.intro [] (Exists.intro [] (Exists.intro [] (Exists.intro [(0, some 0), (1, some 1), (2, some 6), (3, some 4), (4, some 5)] (And.intro rfl (And.intro rfl (And.intro rfl (And.intro (And.intro rfl (And.intro rfl trivial)) (And.intro rfl (And.intro rfl (And.intro rfl (And.intro rfl (And.intro rfl trivial)))))))))))))
        · refine gdNF ?_
          refine gdNF ?_
          refine gdNF ?_
          refine gdNF ?_
          refine condT ?_
          refine condT ?_
          refine Or.inl ?_
          have hz := someE hF
          subst hz
          refine Exists.intro [] (Exists.intro [] (Exists.intro [] (Exists.intro [] (Exists.intro [(0, some 0), (1, some 1)] (And.intro rfl (And.intro rfl (And.intro rfl (And.intro trivial (And.intro rfl (And.intro rfl trivial))))))))))
      · refine gdNF ?_
        refine condT ?_
        refine gdNF ?_
        refine gdNF ?_
        refine gdNF ?_
        refine gdNF ?_
        refine gdNF ?_
        refine condT ?_
        refine condT ?_
        refine Or.inl ?_
        have hz := someE hF
        subst hz
        refine Exists.intro [] (Exists.intro [] (Exists.intro [] (Exists.intro [] (Exists.intro [(0, some 0), (1, some 1)] (And.intro rfl (And.intro rfl (And.intro rfl (And.intro trivial (And.intro rfl (And.intro rfl trivial))))))))))
  · rcases z2 with z2a | z2b
    · dsimp only [sumF] at hF
      refine And.intro ?_ trivial
      refine Or.inl ?_
      obtain ⟨r3, hr3, hF⟩ := bindE hF
      refine Or.inl (And.intro f52_in (callV0 (callI C52 (r1.2.1, (0 : Int)) r3 [] true C52_holds hr3 rfl rfl ?_)))
      refine (And.intro rfl (And.intro rfl (And.intro (fun _ => rfl) (And.intro rfl (And.intro rfl (And.intro trivial (And.intro trivial ?_)))))))
      refine Or.inl ?_
      refine Or.inl ?_
      refine Or.inl ?_
      obtain ⟨r4, hr4, hF⟩ := bindE hF
      refine Or.inl (And.intro f81_in (callV0 (callI C81 ([(4294967296 : Int)], (List.length r1.2.2.1 : Int)) r4 [] true C81_holds hr4 rfl rfl ?_)))
      refine (And.intro rfl (And.intro rfl (And.intro (fun _ => rfl) (And.intro rfl (And.intro rfl (And.intro trivial (And.intro trivial ?_)))))))
      refine Or.inl ?_
      refine guardI hF (fun hF => ?_)
      refine Or.inl ?_
      refine guardI hF (fun hF => ?_)
      refine Or.inl ?_
      refine Or.inl ?_
      obtain ⟨r5, hr5, hF⟩ := bindE hF
      refine Or.inl (And.intro f77_in (callV0 (callI C77 r1.2.2.2 r5 [(0, some 0), (1, some 1)] false C77_holds hr5 rfl rfl ?_)))
      refine (And.intro (fun h => nomatch h) (And.intro rfl (And.intro rfl (And.intro (And.intro rfl trivial) (And.intro (And.intro rfl (And.intro rfl trivial)) ?_)))))
      refine Or.inl ?_
      obtain ⟨r6, hr6, hF⟩ := bindE hF
      have hr6 : C79.F (r5.2, r5.1, (0 : Int), (List.set r3.2.2 (Int.toNat class_) (-4294967296 : Int))) = some r6 := hr6
      refine Or.inl (And.intro f79_in (callV0 (callI C79 _ r6 [(0, some 12), (1, some 0), (2, some 1)] false C79_holds hr6 rfl rfl ?_)))
      refine (And.intro rfl (And.intro (fun h => nomatch h) (And.intro rfl (And.intro rfl (And.intro (And.intro rfl trivial) (And.intro (And.intro rfl (And.intro rfl (And.intro rfl trivial))) ?_))))))
      refine Or.inl ?_
      obtain ⟨r7, hr7, hF⟩ := bindE hF
      refine Or.inl (And.intro f79_in (callV0 (callI C79 (r6.2.2.2, r6.2.1, r6.2.2.1, (List.set r4 (Int.toNat class_) (0 : Int))) r7 [(0, some 12), (1, some 0), (2, some 16)] false C79_holds hr7 rfl rfl ?_)))
      refine (And.intro rfl (And.intro (fun h => nomatch h) (And.intro rfl (And.intro rfl (And.intro (And.intro rfl trivial) (And.intro (And.intro rfl (And.intro rfl (And.intro rfl trivial))) ?_))))))
      refine Or.inl ?_
      obtain ⟨r8, hr8, hF⟩ := bindE hF
      refine Or.inl (And.intro f78_in (callV0 (callI C78 (r7.2.2.2, r7.2.1, r7.2.2.1, (4 : Int), out, r6.1, (0 : Int)) r8 [(0, some 12), (1, some 0), (2, some 20)] false C78_holds hr8 rfl rfl ?_)))
      refine (And.intro rfl (And.intro rfl (And.intro rfl (And.intro rfl (And.intro (fun h => nomatch h) (And.intro rfl (And.intro rfl (And.intro (And.intro rfl trivial) (And.intro (And.intro rfl (And.intro rfl (And.intro rfl trivial))) ?_)))))))))
      obtain ⟨r9, hr9, hF⟩ := bindE hF
      refine Or.inl (And.intro f78_in (callV0 (callI C78 (r8.2.2.2, r8.2.1, r8.2.2.1, (9 : Int), r8.1, (0 : Int), (0 : Int)) r9 [(0, some 12), (1, some 0), (2, some 24)] false C78_holds hr9 rfl rfl ?_)))
      refine (And.intro rfl (And.intro rfl (And.intro rfl (And.intro rfl (And.intro (fun h => nomatch h) (And.intro rfl (And.intro rfl (And.intro (And.intro rfl trivial) (And.intro (And.intro rfl (And.intro rfl (And.intro rfl trivial))) ?_)))))))))
      refine Or.inl ?_
      obtain ⟨r10, hr10, hF⟩ := bindE hF
      refine Or.inl (And.intro f78_in (callV0 (callI C78 (r9.2.2.2, r9.2.1, r9.2.2.1, (2 : Int), out, r9.1, (0 : Int)) r10 [(0, some 12), (1, some 0), (2, some 28)] false C78_holds hr10 rfl rfl ?_)))
      refine (And.intro rfl (And.intro rfl (And.intro rfl (And.intro rfl (And.intro (fun h => nomatch h) (And.intro rfl (And.intro rfl (And.intro (And.intro rfl trivial) (And.intro (And.intro rfl (And.intro rfl (And.intro rfl trivial))) ?_)))))))))
      obtain ⟨r11, hr11, hF⟩ := bindE hF
      refine Or.inl (And.intro f78_in (callV0 (callI C78 (r10.2.2.2, r10.2.1, r10.2.2.1, (2 : Int), r10.1, r7.1, (0 : Int)) r11 [(0, some 12), (1, some 0), (2, some 32)] false C78_holds hr11 rfl rfl ?_)))
      refine (And.intro rfl (And.intro rfl (And.intro rfl (And.intro rfl (And.intro (fun h => nomatch h) (And.intro rfl (And.intro rfl (And.intro (And.intro rfl trivial) (And.intro (And.intro rfl (And.intro rfl (And.intro rfl trivial))) ?_)))))))))
      refine Or.inl ?_
      obtain ⟨r12, hr12, hF⟩ := bindE hF
      refine Or.inl (And.intro f78_in (callV0 (callI C78 (r11.2.2.2, r11.2.1, r11.2.2.1, (11 : Int), r11.1, (0 : Int), (1 : Int)) r12 [(0, some 12), (1, some 0), (2, some 36)] false C78_holds hr12 rfl rfl ?_)))
      refine (And.intro rfl (And.intro rfl (And.intro rfl (And.intro rfl (And.intro (fun h => nomatch h) (And.intro rfl (And.intro rfl (And.intro (And.intro rfl trivial) (And.intro (And.intro rfl (And.intro rfl (And.intro rfl trivial))) ?_)))))))))
      obtain ⟨r13, hr13, hF⟩ := bindE hF
      refine Or.inl (And.intro f78_in (callV0 (callI C78 (r12.2.2.2, r12.2.1, r12.2.2.1, (4 : Int), r12.1, r7.1, (0 : Int)) r13 [(0, some 12), (1, some 0), (2, some 40)] false C78_holds hr13 rfl rfl ?_)))
      refine (And.intro rfl (And.intro rfl (And.intro rfl (And.intro rfl (And.intro (fun h => nomatch h) (And.intro rfl (And.intro rfl (And.intro (And.intro rfl trivial) (And.intro (And.intro rfl (And.intro rfl (And.intro rfl trivial))) ?_)))))))))
      obtain ⟨r14, hr14, hF⟩ := bindE hF
      refine Or.inl (And.intro f78_in (callV0 (callI C78 (r13.2.2.2, r13.2.1, r13.2.2.1, (9 : Int), r13.1, (0 : Int), (0 : Int)) r14 [(0, some 12), (1, some 0), (2, some 44)] false C78_holds hr14 rfl rfl ?_)))
      refine (And.intro rfl (And.intro rfl (And.intro rfl (And.intro rfl (And.intro (fun h => nomatch h) (And.intro rfl (And.intro rfl (And.intro (And.intro rfl trivial) (And.intro (And.intro rfl (And.intro rfl (And.intro rfl trivial))) ?_)))))))))
      obtain ⟨r15, hr15, hF⟩ := bindE hF
      refine Or.inl (And.intro f80_in (callV0 (callI C80 (r14.2.2.2, r14.2.1, r14.2.2.1, r14.1) r15 [(0, some 12), (1, some 0), (2, some 48)] false C80_holds hr15 rfl rfl ?_)))
      refine (And.intro rfl (And.intro (fun h => nomatch h) (And.intro rfl (And.intro rfl (And.intro (And.intro rfl trivial) (And.intro (And.intro rfl (And.intro rfl (And.intro rfl trivial))) ?_))))))
      have hy := someE hF
      subst hy
      refine And.intro rfl (Exists.intro [] (Exists.intro [] (Exists.intro [] (Exists.intro [] (Exists.intro [(0, some 0), (2, some 52)] (And.intro rfl (And.intro rfl (And.intro rfl (And.intro trivial (And.intro rfl (And.intro rfl trivial)))))))))))
    · dsimp only [sumF] at hF
      refine And.intro ?_ trivial
      have hy := someE hF
      subst hy
      refine And.intro rfl (Exists.intro [] (Exists.intro [] (Exists.intro [] (Exists.intro [] (Exists.intro [(0, some 0), (2, some 1)] (And.intro rfl (And.intro rfl (And.intro rfl (And.intro trivial (And.intro rfl (And.intro rfl trivial)))))))))))
theorem C51_holds : C51.Holds Tryz.prog 51 := holds_of_vc tab_ok mixed (fn := Tryz.f51) (by kernel_rfl) rfl C51 (fun x y hF => C51_vc x.1 x.2.1 x.2.2 y hF)
theorem f51_in : ∃ fn, Tryz.prog.funcs[51]? = some fn ∧ fn.body.isSome = true ∧ (fn.name == "runtime.NumGoroutine") = false := ⟨Tryz.f51, by kernel_rfl, by kernel_rfl, by kernel_rfl⟩
end Go.Proofs
namespace Go.Proofs
open Go.AM
-- carousel/grad.far
def f23 (t_l : List (Int × Int × Int × Int × (List Int) × (List Int))) (kind : Int) (out : Int) (e : (List Int) × (List Int) × Int) : Option (Int × Int × (List (Int × Int × Int × Int × (List Int) × (List Int)))) :=
  bif (kind == (1 : Int)) then
    bindF (f49 t_l out e.2.1) fun r1 =>
    some (r1.1, r1.2.1, r1.2.2)
  else
    bif (kind == (2 : Int)) then
      bindF (f50 t_l out e.2.1) fun r2 =>
      some (r2.1, r2.2.1, r2.2.2)
    else
      bindF (f51 t_l out e.2.2) fun r3 =>
      some (r3.1, r3.2.1, r3.2.2)
def C23 : Con where
  X := (List (Int × Int × Int × Int × (List Int) × (List Int))) × Int × Int × ((List Int) × (List Int) × Int)
  Y := Int × Int × (List (Int × Int × Int × Int × (List Int) × (List Int)))
  e := 2
  args x := [.raw false [(.ptr 0 0)], .dat (.int .i64) x.2.1, .dat (.int .i64) x.2.2.1, .dat (.p (.sl (.int .i64)) (.p (.sl (.int .i64)) (.int .i64))) x.2.2.2]
  hin x := [(0, .cells [(.osl 1)]), (1, .arr 132 (.p (.int .i64) (.p (.int .i64) (.p (.int .i64) (.p (.int .i64) (.p (.sl (.int .i64)) (.sl (.int .i64))))))) x.1)]
  F x := f23 x.1 x.2.1 x.2.2.1 x.2.2.2
  ret y := [.dat (.int .i64) y.1, .dat (.int .i64) y.2.1]
  hout y := [(0, .cells [(.osl 2)]), (2, .arr 132 (.p (.int .i64) (.p (.int .i64) (.p (.int .i64) (.p (.int .i64) (.p (.sl (.int .i64)) (.sl (.int .i64))))))) y.2.2)]
  nout := 3
theorem C23_vc (t_l : List (Int × Int × Int × Int × (List Int) × (List Int))) (kind : Int) (out : Int) (e : (List Int) × (List Int) × Int) (y : Int × Int × (List (Int × Int × Int × Int × (List Int) × (List Int)))) (hF : f23 t_l kind out e = some y) : vc Tryz.prog tab Tryz.f23.ntmps 2 (match Tryz.f23.body with | some c => c | none => .skip) (retK tab C23 Tryz.f23.results.toList y) (C23.shIn (t_l, kind, out, e)).st := by
  unfold f23 at hF
  refine Or.inl ?_
  refine Or.inl ?_
  refine Or.inl ?_
  refine Or.inl ?_
  refine condI hF (fun hF => ?_) (fun hF => ?_)
  · refine Or.inl ?_
    obtain ⟨r1, hr1, hF⟩ := bindE hF
    refine Or.inl (And.intro f49_in (callV0 (callI C49 (t_l, out, e.2.1) r1 [(0, some 0), (1, some 1)] false C49_holds hr1 rfl rfl ?_)))
    refine (And.intro rfl (And.intro rfl (And.intro (fun h => nomatch h) (And.intro rfl (And.intro rfl (And.intro (And.intro rfl trivial) (And.intro (And.intro rfl (And.intro rfl trivial)) ?_)))))))
    have hy := someE hF
    subst hy
    refine And.intro rfl (Exists.intro [] (Exists.intro [] (Exists.intro [] (Exists.intro [] (Exists.intro [(0, some 0), (2, some 5)] (And.intro rfl (And.intro rfl (And.intro rfl (And.intro trivial (And.intro rfl (And.intro rfl trivial)))))))))))
  · refine Or.inl ?_
    refine condI hF (fun hF => ?_) (fun hF => ?_)
    · refine Or.inl ?_
      obtain ⟨r2, hr2, hF⟩ := bindE hF
      refine Or.inl (And.intro f50_in (callV0 (callI C50 (t_l, out, e.2.1) r2 [(0, some 0), (1, some 1)] false C50_holds hr2 rfl rfl ?_)))
      refine (And.intro rfl (And.intro rfl (And.intro (fun h => nomatch h) (And.intro rfl (And.intro rfl (And.intro (And.intro rfl trivial) (And.intro (And.intro rfl (And.intro rfl trivial)) ?_)))))))
      have hy := someE hF
      subst hy
      refine And.intro rfl (Exists.intro [] (Exists.intro [] (Exists.intro [] (Exists.intro [] (Exists.intro [(0, some 0), (2, some 5)] (And.intro rfl (And.intro rfl (And.intro rfl (And.intro trivial (And.intro rfl (And.intro rfl trivial)))))))))))
    · refine Or.inl ?_
      obtain ⟨r3, hr3, hF⟩ := bindE hF
      refine Or.inl (And.intro f51_in (callV0 (callI C51 (t_l, out, e.2.2) r3 [(0, some 0), (1, some 1)] false C51_holds hr3 rfl rfl ?_)))
      refine (And.intro rfl (And.intro rfl (And.intro (fun h => nomatch h) (And.intro rfl (And.intro rfl (And.intro (And.intro rfl trivial) (And.intro (And.intro rfl (And.intro rfl trivial)) ?_)))))))
      have hy := someE hF
      subst hy
      refine And.intro rfl (Exists.intro [] (Exists.intro [] (Exists.intro [] (Exists.intro [] (Exists.intro [(0, some 0), (2, some 5)] (And.intro rfl (And.intro rfl (And.intro rfl (And.intro trivial (And.intro rfl (And.intro rfl trivial)))))))))))
theorem C23_holds : C23.Holds Tryz.prog 23 := holds_of_vc tab_ok mixed (fn := Tryz.f23) (by kernel_rfl) rfl C23 (fun x y hF => C23_vc x.1 x.2.1 x.2.2.1 x.2.2.2 y hF)
theorem f23_in : ∃ fn, Tryz.prog.funcs[23]? = some fn ∧ fn.body.isSome = true ∧ (fn.name == "runtime.NumGoroutine") = false := ⟨Tryz.f23, by kernel_rfl, by kernel_rfl, by kernel_rfl⟩
end Go.Proofs
namespace Go.Proofs
open Go.AM
-- carousel/tens.Fold
def f108_j3 (a : (List Int) × (List Int)) (d : List Int) : Option Bool :=
  bindF (f86 (a.1, a.2)) fun r9 =>
  bif (!r9) then
    some true
  else
    bindF (f72 d) fun r10 =>
    some (!r10)
def f108_j2 (a : (List Int) × (List Int)) (d : List Int) : Option (Sum Unit Unit) :=
  bindF (f108_j3 a d) fun z8 =>
  bif z8 then
    some (Sum.inr ())
  else
    some (Sum.inl ())
def f108_j6 (a : (List Int) × (List Int)) (r11 : Int × (List Int)) : Option Bool :=
  bif (r11.1 != (0 : Int)) then
    some true
  else
    bindF (f87 r11.2 a.1) fun r18 =>
    some (!r18)
def f108_j5 (a : (List Int) × (List Int)) (r11 : Int × (List Int)) : Option (Sum Unit Unit) :=
  bindF (f108_j6 a r11) fun z17 =>
  bif z17 then
    some (Sum.inr ())
  else
    some (Sum.inl ())
def f108_l7 (a : (List Int) × (List Int)) (r20 : List Int) (go : (Int × (List Int)) → Option (List Int)) (v51 : Int) (l4 : List Int) : Option (List Int) :=
  bif (decide (v51 < (List.length a.2 : Int))) then
    guardF (0 ≤ v51 ∧ v51 < (List.length a.2 : Int)) <|
    guardF (0 ≤ v51 ∧ v51 < (List.length r20 : Int)) <|
    guardF (0 ≤ v51 ∧ v51 < (List.length r20 : Int)) <|
    guardF (0 ≤ (rd (0 : Int) r20 v51) ∧ (rd (0 : Int) r20 v51) < (List.length l4 : Int)) <|
    bindF (f65 (rd (0 : Int) l4 (rd (0 : Int) r20 v51)) (rd (0 : Int) a.2 v51)) fun q11_15 =>
    guardF (0 ≤ (rd (0 : Int) r20 v51) ∧ (rd (0 : Int) r20 v51) < (List.length l4 : Int)) <|
    go ((IntKind.i64.wrap (v51 + (1 : Int))), (List.set l4 (Int.toNat (rd (0 : Int) r20 v51)) q11_15))
  else
    some l4
def f108 (a : (List Int) × (List Int)) (d : List Int) : Option (Int × (List Int) × (List Int)) :=
  bindF (f108_j2 a d) fun z5 =>
  sumF z5 (fun z5a =>
    bindF (f141 d a.1) fun r11 =>
    bindF (f108_j5 a r11) fun z15 =>
    sumF z15 (fun z15a =>
      bindF (f52 d (0 : Int)) fun r19 =>
      bindF (f142 d a.1) fun r20 =>
      bindF (loopF (fun go x => f108_l7 a r20 go x.1 x.2) fuelN ((0 : Int), r19.2.2)) fun z21 =>
      some ((0 : Int), r19.2.1, z21)) (fun z15b =>
      some ((4 : Int), [], []))) (fun z5b =>
    some ((1 : Int), [], []))
def C108 : Con where
  X := ((List Int) × (List Int)) × (List Int)
  Y := Int × (List Int) × (List Int)
  e := 0
  args x := [.dat (.p (.sl (.int .i64)) (.sl (.int .i64))) x.1, .dat (.sl (.int .i64)) x.2]
  hin x := []
  F x := f108 x.1 x.2
  ret y := [.raw true [(.osl 0), (.osl 1)], .dat (.int .i64) y.1]
  hout y := [(0, .arr 3 (.int .i64) y.2.1), (1, .arr 23 (.int .i64) y.2.2)]
  nout := 2
theorem C108_vc (a : (List Int) × (List Int)) (d : List Int) (y : Int × (List Int) × (List Int)) (hF : f108 a d = some y) : vc Tryz.prog tab Tryz.f108.ntmps 0 (match Tryz.f108.body with | some c => c | none => .skip) (retK tab C108 Tryz.f108.results.toList y) (C108.shIn (a, d)).st := by
  unfold f108 at hF
  refine Or.inl ?_
  obtain ⟨z5, hz5, hF⟩ := bindE hF
  refine Or.inr ⟨Sum.elim (fun z5a => [(0, ⟨[(1, .dat (.sl (.int .i64)) d), (2, .raw false [(.ptr 0 0)]), (4, .raw false [(.ptr 1 0)])], [(0, .cells [(.d (.sl (.int .i64)) a.1), (.d (.sl (.int .i64)) a.2)]), (1, .cells [(.c (.slice none 0 0)), (.c (.slice none 0 0))])], 2⟩)]) (fun z5b => [(1, ⟨[(4, .raw false [(.ptr 0 0)]), (5, .dat (.int .i64) (1 : Int))], [(0, .cells [(.c (.slice none 0 0)), (.c (.slice none 0 0))])], 1⟩)]) z5, ?_, ?_⟩
  · have hF := hz5
    clear hz5
    unfold f108_j2 at hF
    obtain ⟨z8, hz8, hF⟩ := bindE hF
    refine Or.inr ⟨[(0, ⟨[(1, .dat (.sl (.int .i64)) d), (2, .raw false [(.ptr 0 0)]), (4, .raw false [(.ptr 1 0)]), (20, .dat .bool z8)], [(0, .cells [(.d (.sl (.int .i64)) a.1), (.d (.sl (.int .i64)) a.2)]), (1, .cells [(.c (.slice none 0 0)), (.c (.slice none 0 0))])], 2⟩)], ?_, ?_⟩
    · have hF := hz8
      clear hz8
      unfold f108_j3 at hF
      obtain ⟨r9, hr9, hF⟩ := bindE hF
      refine Or.inl (And.intro f86_in (callV0 (callI C86 (a.1, a.2) r9 [] false C86_holds hr9 rfl rfl ?_)))
      refine (And.intro rfl (And.intro rfl (And.intro (fun h => nomatch h) (And.intro rfl (And.intro rfl (And.intro trivial (And.intro trivial ?_)))))))
      refine condN hF (fun hF => ?_) (fun hF => ?_)
      · refine gdYF ?_
        obtain ⟨r10, hr10, hF⟩ := bindE hF
        refine Or.inl (And.intro f72_in (callV0 (callI C72 d r10 [] false C72_holds hr10 rfl rfl ?_)))
        refine (And.intro rfl (And.intro (fun h => nomatch h) (And.intro rfl (And.intro rfl (And.intro trivial (And.intro trivial ?_))))))
        refine gdYF ?_
        refine condF ?_
        have hz := someE hF
        subst hz
        refine Exists.intro [] (Exists.intro [] (Exists.intro [] (Exists.intro [] (Exists.intro [(0, some 0), (1, some 1)] (And.intro rfl (And.intro rfl (And.intro rfl (And.intro (And.intro rfl (And.intro rfl trivial)) (And.intro rfl (And.intro rfl trivial))))))))))
      · refine gdNF ?_
        refine gdNF ?_
        refine condT ?_
        have hz := someE hF
        subst hz
        refine Exists.intro [] (Exists.intro [] (Exists.intro [] (Exists.intro [] (Exists.intro [(0, some 0), (1, some 1)] (And.intro rfl (And.intro rfl (And.intro rfl (And.intro (And.intro rfl (And.intro rfl trivial)) (And.intro rfl (And.intro rfl trivial))))))))))
    · refine And.intro ?_ trivial
      refine condI hF (fun hF => ?_) (fun hF => ?_)
      · refine Or.inl ?_
        refine Or.inl ?_
        have hz := someE hF
        subst hz
        refine Exists.intro [] (Exists.intro [] (Exists.intro [] (Exists.intro [] (Exists.intro [(0, some 1)] (And.intro rfl (And.intro rfl (And.intro (And.intro rfl trivial) (And.intro rfl trivial))))))))
      · have hz := someE hF
        subst hz
        refine Exists.intro [] (Exists.intro [] (Exists.intro [] (Exists.intro [] (Exists.intro [(0, some 0), (1, some 1)] (And.intro rfl (And.intro rfl (And.intro (And.intro rfl (And.intro rfl trivial)) (And.intro rfl (And.intro rfl trivial)))))))))
  · rcases z5 with z5a | z5b
    · dsimp only [sumF] at hF
      refine And.intro ?_ trivial
      refine Or.inl ?_
      obtain ⟨r11, hr11, hF⟩ := bindE hF
      refine Or.inl (And.intro f141_in (callV0 (callI C141 (d, a.1) r11 [] false C141_holds hr11 rfl rfl ?_)))
      refine (And.intro rfl (And.intro rfl (And.intro (fun h => nomatch h) (And.intro rfl (And.intro rfl (And.intro trivial (And.intro trivial ?_)))))))
      obtain ⟨z15, hz15, hF⟩ := bindE hF
      refine Or.inr ⟨Sum.elim (fun z15a => [(0, ⟨[(1, .dat (.sl (.int .i64)) d), (2, .raw false [(.ptr 0 0)]), (4, .raw false [(.ptr 1 0)])], [(0, .cells [(.d (.sl (.int .i64)) a.1), (.d (.sl (.int .i64)) a.2)]), (1, .cells [(.c (.slice none 0 0)), (.c (.slice none 0 0))])], 2⟩)]) (fun z15b => [(1, ⟨[(4, .raw false [(.ptr 0 0)]), (5, .dat (.int .i64) (4 : Int))], [(0, .cells [(.c (.slice none 0 0)), (.c (.slice none 0 0))])], 1⟩)]) z15, ?_, ?_⟩
      · have hF := hz15
        clear hz15
        unfold f108_j5 at hF
        obtain ⟨z17, hz17, hF⟩ := bindE hF
        refine Or.inr ⟨[(0, ⟨[(1, .dat (.sl (.int .i64)) d), (2, .raw false [(.ptr 0 0)]), (4, .raw false [(.ptr 1 0)]), (37, .dat .bool z17)], [(0, .cells [(.d (.sl (.int .i64)) a.1), (.d (.sl (.int .i64)) a.2)]), (1, .cells [(.c (.slice none 0 0)), (.c (.slice none 0 0))])], 2⟩)], ?_, ?_⟩
        · have hF := hz17
          clear hz17
          unfold f108_j6 at hF
          refine condN hF (fun hF => ?_) (fun hF => ?_)
          · refine gdYF ?_
            refine gdYF ?_
            refine gdYF ?_
            obtain ⟨r18, hr18, hF⟩ := bindE hF
            refine Or.inl (And.intro f87_in (callV0 (callI C87 (r11.2, a.1) r18 [] true C87_holds hr18 rfl rfl ?_)))
            refine (And.intro rfl (And.intro rfl (And.intro (fun _ => rfl) (And.intro rfl (And.intro rfl (And.intro trivial (And.intro trivial ?_)))))))
            refine gdYF ?_
            refine condF ?_
            have hz := someE hF
            subst hz
            refine Exists.intro [] (Exists.intro [] (Exists.intro [] (Exists.intro [] (Exists.intro [(0, some 0), (1, some 1)] (And.intro rfl (And.intro rfl (And.intro rfl (And.intro (And.intro rfl (And.intro rfl trivial)) (And.intro rfl (And.intro rfl trivial))))))))))
          · refine gdNF ?_
            refine gdNF ?_
            refine gdNF ?_
            refine gdNF ?_
            refine condT ?_
            have hz := someE hF
            subst hz
            refine Exists.intro [] (Exists.intro [] (Exists.intro [] (Exists.intro [] (Exists.intro [(0, some 0), (1, some 1)] (And.intro rfl (And.intro rfl (And.intro rfl (And.intro (And.intro rfl (And.intro rfl trivial)) (And.intro rfl (And.intro rfl trivial))))))))))
        · refine And.intro ?_ trivial
          refine condI hF (fun hF => ?_) (fun hF => ?_)
          · refine Or.inl ?_
            refine Or.inl ?_
            have hz := someE hF
            subst hz
            refine Exists.intro [] (Exists.intro [] (Exists.intro [] (Exists.intro [] (Exists.intro [(0, some 1)] (And.intro rfl (And.intro rfl (And.intro (And.intro rfl trivial) (And.intro rfl trivial))))))))
          · have hz := someE hF
            subst hz
            refine Exists.intro [] (Exists.intro [] (Exists.intro [] (Exists.intro [] (Exists.intro [(0, some 0), (1, some 1)] (And.intro rfl (And.intro rfl (And.intro (And.intro rfl (And.intro rfl trivial)) (And.intro rfl (And.intro rfl trivial)))))))))
      · rcases z15 with z15a | z15b
        · dsimp only [sumF] at hF
          refine And.intro ?_ trivial
          refine Or.inl ?_
          obtain ⟨r19, hr19, hF⟩ := bindE hF
          refine Or.inl (And.intro f52_in (callV0 (callI C52 (d, (0 : Int)) r19 [] false C52_holds hr19 rfl rfl ?_)))
          refine (And.intro rfl (And.intro rfl (And.intro (fun h => nomatch h) (And.intro rfl (And.intro rfl (And.intro trivial (And.intro trivial ?_)))))))
          refine Or.inl ?_
          refine Or.inl ?_
          obtain ⟨r20, hr20, hF⟩ := bindE hF
          refine Or.inl (And.intro f142_in (callV0 (callI C142 (d, a.1) r20 [] false C142_holds hr20 rfl rfl ?_)))
          refine (And.intro rfl (And.intro rfl (And.intro (fun h => nomatch h) (And.intro rfl (And.intro rfl (And.intro trivial (And.intro trivial ?_)))))))
          refine Or.inl ?_
          refine Or.inl ?_
          obtain ⟨z21, hz21, hF⟩ := bindE hF
          refine loopI (Int × (List Int)) (List Int) (fun x => ⟨[(4, .raw false [(.ptr 0 0)]), (8, .raw false [(.ptr 1 0)]), (10, .raw false [(.osl 2)]), (49, .dat (.sl (.int .i64)) a.2), (50, .dat (.int .i64) (List.length a.2 : Int)), (51, .dat (.int .i64) x.1)], [(0, .cells [(.c (.slice none 0 0)), (.c (.slice none 0 0))]), (1, .cells [(.osl 3), (.osl 4)]), (2, .arr 3 (.int .i64) r20), (3, .arr 3 (.int .i64) r19.2.1), (4, .arr 23 (.int .i64) x.2)], 5⟩) (fun z => [(2, ⟨[(4, .raw false [(.ptr 0 0)]), (8, .raw false [(.ptr 1 0)])], [(0, .cells [(.c (.slice none 0 0)), (.c (.slice none 0 0))]), (1, .cells [(.osl 2), (.osl 3)]), (2, .arr 3 (.int .i64) r19.2.1), (3, .arr 23 (.int .i64) z)], 4⟩)]) (loopF (fun go x => f108_l7 a r20 go x.1 x.2)) fuelN ((0 : Int), r19.2.2) z21 (And.intro hz21 (And.intro (Exists.intro [] (Exists.intro [] (Exists.intro [] (Exists.intro [] (Exists.intro [(0, some 1), (1, some 4), (2, some 5), (3, some 2), (4, some 3)] (And.intro rfl (And.intro rfl (And.intro rfl (And.intro rfl (And.intro (And.intro rfl (And.intro rfl (And.intro rfl trivial))) (And.intro rfl (And.intro rfl (And.intro rfl (And.intro rfl (And.intro rfl trivial))))))))))))))) (And.intro (fun _ _ h => loopZ h) (And.intro (fun m => curI (fun v51 => fun l4 z hF => ?_)) ?_))))
          · have hF : f108_l7 a r20 (loopF (fun go x => f108_l7 a r20 go x.1 x.2) m) v51 l4 = some z := hF
            unfold f108_l7 at hF
            refine Or.inl ?_
            refine Or.inl ?_
            refine condI hF (fun hF => ?_) (fun hF => ?_)
            · refine Or.inl ?_
              refine Or.inl ?_
              refine guardI hF (fun hF => ?_)
              refine Exists.intro (.take 0 (.take 1 (.take 2 (.take 3 (.take 4 (.take 5 (.take 6 (.take 7 (.take 8 (.take 9 (.take 10 (.take 11 (.take 12 (.take 13 (.take 14 (.alt 15 (.take 16 (.alt 17 .done .done)) .done)))))))))))))))) (Exists.intro [(17, [4])] (Exists.intro [] (And.intro rfl ?_)))
              refine guardI hF (fun hF => ?_)
              refine guardI hF (fun hF => ?_)
              refine guardI hF (fun hF => ?_)
              refine And.intro trivial ?_
              obtain ⟨q11_15, hq11_15, hF⟩ := bindE hF
              refine Or.inl (And.intro f65_in (callV0 (callI C65 ((rd (0 : Int) l4 (rd (0 : Int) r20 v51)), (rd (0 : Int) a.2 v51)) q11_15 [] false C65_holds hq11_15 rfl rfl ?_)))
              refine (And.intro rfl (And.intro rfl (And.intro (fun h => nomatch h) (And.intro rfl (And.intro rfl (And.intro trivial (And.intro trivial ?_)))))))
              refine guardI hF (fun hF => ?_)
              refine And.intro trivial ?_
              refine Or.inl ?_
              refine Exists.intro ((IntKind.i64.wrap (v51 + (1 : Int))), (List.set l4 (Int.toNat (rd (0 : Int) r20 v51)) q11_15)) (And.intro hF (Exists.intro [] (Exists.intro [] (Exists.intro [] (Exists.intro [] (Exists.intro [(0, some 0), (1, some 1), (2, some 2), (3, some 3), (4, some 4)] (And.intro rfl (And.intro rfl (And.intro rfl (And.intro rfl (And.intro (And.intro rfl (And.intro rfl (And.intro rfl trivial))) (And.intro rfl (And.intro rfl (And.intro rfl (And.intro rfl (And.intro rfl trivial))))))))))))))))
            · have hz := someE hF
              subst hz
              refine Exists.intro [] (Exists.intro [] (Exists.intro [] (Exists.intro [] (Exists.intro [(0, some 0), (1, some 1), (2, some 3), (3, some 4)] (And.intro rfl (And.intro (And.intro rfl (And.intro rfl trivial)) (And.intro rfl (And.intro rfl (And.intro rfl (And.intro rfl trivial))))))))))
          · refine And.intro ?_ trivial
            refine Or.inl ?_
            refine Or.inl ?_
            have hy := someE hF
            subst hy
            refine And.intro rfl (Exists.intro [] (Exists.intro [] (Exists.intro [] (Exists.intro [] (Exists.intro [(0, some 2), (1, some 3)] (And.intro rfl (And.intro rfl (And.intro (And.intro rfl trivial) (And.intro rfl (And.intro rfl trivial))))))))))
        · dsimp only [sumF] at hF
          refine And.intro ?_ trivial
          have hy := someE hF
          subst hy
          refine And.intro rfl (Exists.intro [] (Exists.intro [] (Exists.intro [] (Exists.intro [] (Exists.intro [(0, none), (1, none)] (And.intro rfl (And.intro rfl (And.intro (And.intro rfl trivial) (And.intro rfl (And.intro rfl trivial))))))))))
    · dsimp only [sumF] at hF
      refine And.intro ?_ trivial
      have hy := someE hF
      subst hy
      refine And.intro rfl (Exists.intro [] (Exists.intro [] (Exists.intro [] (Exists.intro [] (Exists.intro [(0, none), (1, none)] (And.intro rfl (And.intro rfl (And.intro (And.intro rfl trivial) (And.intro rfl (And.intro rfl trivial))))))))))
theorem C108_holds : C108.Holds Tryz.prog 108 := holds_of_vc tab_ok mixed (fn := Tryz.f108) (by kernel_rfl) rfl C108 (fun x y hF => C108_vc x.1 x.2 y hF)
theorem f108_in : ∃ fn, Tryz.prog.funcs[108]? = some fn ∧ fn.body.isSome = true ∧ (fn.name == "runtime.NumGoroutine") = false := ⟨Tryz.f108, by kernel_rfl, by kernel_rfl, by kernel_rfl⟩
end Go.Proofs
namespace Go.Proofs
open Go.AM
-- carousel/back.folded
def f110 (t : (List Int) × (List Int)) (e : Int) (d : List Int) : Option (Int × (List Int) × (List Int)) :=
  bif (e != (0 : Int)) then
    some (e, [], [])
  else
    bindF (f108 (t.1, t.2) d) fun r1 =>
    some (r1.1, r1.2.1, r1.2.2)
def C110 : Con where
  X := ((List Int) × (List Int)) × Int × (List Int)
  Y := Int × (List Int) × (List Int)
  e := 0
  args x := [.dat (.p (.sl (.int .i64)) (.sl (.int .i64))) x.1, .dat (.int .i64) x.2.1, .dat (.sl (.int .i64)) x.2.2]
  hin x := []
  F x := f110 x.1 x.2.1 x.2.2
  ret y := [.raw true [(.osl 0), (.osl 1)], .dat (.int .i64) y.1]
  hout y := [(0, .arr 3 (.int .i64) y.2.1), (1, .arr 23 (.int .i64) y.2.2)]
  nout := 2
theorem C110_vc (t : (List Int) × (List Int)) (e : Int) (d : List Int) (y : Int × (List Int) × (List Int)) (hF : f110 t e d = some y) : vc Tryz.prog tab Tryz.f110.ntmps 0 (match Tryz.f110.body with | some c => c | none => .skip) (retK tab C110 Tryz.f110.results.toList y) (C110.shIn (t, e, d)).st := by
  unfold f110 at hF
  refine Or.inl ?_
  refine Or.inl ?_
  refine Or.inl ?_
  refine condI hF (fun hF => ?_) (fun hF => ?_)
  · refine Or.inl ?_
    refine Or.inl ?_
    have hy := someE hF
    subst hy
    refine And.intro rfl (Exists.intro [] (Exists.intro [] (Exists.intro [] (Exists.intro [] (Exists.intro [(0, none), (1, none)] (And.intro rfl (And.intro rfl (And.intro (And.intro rfl trivial) (And.intro rfl (And.intro rfl trivial))))))))))
  · refine Or.inl ?_
    obtain ⟨r1, hr1, hF⟩ := bindE hF
    refine Or.inl (And.intro f108_in (callV0 (callI C108 ((t.1, t.2), d) r1 [] false C108_holds hr1 rfl rfl ?_)))
    refine (And.intro rfl (And.intro rfl (And.intro rfl (And.intro (fun h => nomatch h) (And.intro rfl (And.intro rfl (And.intro trivial (And.intro trivial ?_))))))))
    refine Or.inl ?_
    have hy := someE hF
    subst hy
    refine And.intro rfl (Exists.intro [] (Exists.intro [] (Exists.intro [] (Exists.intro [] (Exists.intro [(0, some 2), (1, some 3)] (And.intro rfl (And.intro rfl (And.intro (And.intro rfl trivial) (And.intro rfl (And.intro rfl trivial))))))))))
theorem C110_holds : C110.Holds Tryz.prog 110 := holds_of_vc tab_ok mixed (fn := Tryz.f110) (by kernel_rfl) rfl C110 (fun x y hF => C110_vc x.1 x.2.1 x.2.2 y hF)
theorem f110_in : ∃ fn, Tryz.prog.funcs[110]? = some fn ∧ fn.body.isSome = true ∧ (fn.name == "runtime.NumGoroutine") = false := ⟨Tryz.f110, by kernel_rfl, by kernel_rfl, by kernel_rfl⟩
end Go.Proofs
namespace Go.Proofs
open Go.AM
-- carousel/back.product
def f112 (a : (List Int) × (List Int)) (b : (List Int) × (List Int)) (first : Bool) : Option (Int × (List Int) × (List Int)) :=
  bif first then
    bindF (f113 (a.1, a.2)) fun r1 =>
    bif (r1.1 != (0 : Int)) then
      some (r1.1, [], [])
    else
      bindF (f143 (r1.2.1, r1.2.2) (b.1, b.2)) fun r2 =>
      some (r2.1, r2.2.1, r2.2.2)
  else
    bindF (f113 (b.1, b.2)) fun r3 =>
    bif (r3.1 != (0 : Int)) then
      some (r3.1, [], [])
    else
      bindF (f143 (a.1, a.2) (r3.2.1, r3.2.2)) fun r4 =>
      some (r4.1, r4.2.1, r4.2.2)
def C112 : Con where
  X := ((List Int) × (List Int)) × ((List Int) × (List Int)) × Bool
  Y := Int × (List Int) × (List Int)
  e := 0
  args x := [.dat (.p (.sl (.int .i64)) (.sl (.int .i64))) x.1, .dat (.p (.sl (.int .i64)) (.sl (.int .i64))) x.2.1, .dat .bool x.2.2]
  hin x := []
  F x := f112 x.1 x.2.1 x.2.2
  ret y := [.raw true [(.osl 0), (.osl 1)], .dat (.int .i64) y.1]
  hout y := [(0, .arr 3 (.int .i64) y.2.1), (1, .arr 23 (.int .i64) y.2.2)]
  nout := 2
theorem C112_vc (a : (List Int) × (List Int)) (b : (List Int) × (List Int)) (first : Bool) (y : Int × (List Int) × (List Int)) (hF : f112 a b first = some y) : vc Tryz.prog tab Tryz.f112.ntmps 0 (match Tryz.f112.body with | some c => c | none => .skip) (retK tab C112 Tryz.f112.results.toList y) (C112.shIn (a, b, first)).st := by
  unfold f112 at hF
  refine Or.inl ?_
  refine Or.inl ?_
  refine Or.inl ?_
  refine condI hF (fun hF => ?_) (fun hF => ?_)
  · refine Or.inl ?_
    obtain ⟨r1, hr1, hF⟩ := bindE hF
    refine Or.inl (And.intro f113_in (callV0 (callI C113 (a.1, a.2) r1 [] false C113_holds hr1 rfl rfl ?_)))
    refine (And.intro rfl (And.intro rfl (And.intro (fun h => nomatch h) (And.intro rfl (And.intro rfl (And.intro trivial (And.intro trivial ?_)))))))
    refine Or.inl ?_
    refine Or.inl ?_
    refine Or.inl ?_
    refine condI hF (fun hF => ?_) (fun hF => ?_)
    · refine Or.inl ?_
      refine Or.inl ?_
      have hy := someE hF
      subst hy
      refine And.intro rfl (Exists.intro [] (Exists.intro [] (Exists.intro [] (Exists.intro [] (Exists.intro [(0, none), (1, none)] (And.intro rfl (And.intro rfl (And.intro (And.intro rfl trivial) (And.intro rfl (And.intro rfl trivial))))))))))
    · refine Or.inl ?_
      obtain ⟨r2, hr2, hF⟩ := bindE hF
      refine Or.inl (And.intro f143_in (callV0 (callI C143 ((r1.2.1, r1.2.2), (b.1, b.2)) r2 [] true C143_holds hr2 rfl rfl ?_)))
      refine (And.intro rfl (And.intro rfl (And.intro rfl (And.intro rfl (And.intro (fun _ => rfl) (And.intro rfl (And.intro rfl (And.intro trivial (And.intro trivial ?_)))))))))
      refine Or.inl ?_
      have hy := someE hF
      subst hy
      refine And.intro rfl (Exists.intro [] (Exists.intro [] (Exists.intro [] (Exists.intro [] (Exists.intro [(0, some 6), (1, some 7)] (And.intro rfl (And.intro rfl (And.intro (And.intro rfl trivial) (And.intro rfl (And.intro rfl trivial))))))))))
  · refine Or.inl ?_
    obtain ⟨r3, hr3, hF⟩ := bindE hF
    refine Or.inl (And.intro f113_in (callV0 (callI C113 (b.1, b.2) r3 [] false C113_holds hr3 rfl rfl ?_)))
    refine (And.intro rfl (And.intro rfl (And.intro (fun h => nomatch h) (And.intro rfl (And.intro rfl (And.intro trivial (And.intro trivial ?_)))))))
    refine Or.inl ?_
    refine Or.inl ?_
    refine Or.inl ?_
    refine condI hF (fun hF => ?_) (fun hF => ?_)
    · refine Or.inl ?_
      refine Or.inl ?_
      have hy := someE hF
      subst hy
      refine And.intro rfl (Exists.intro [] (Exists.intro [] (Exists.intro [] (Exists.intro [] (Exists.intro [(0, none), (1, none)] (And.intro rfl (And.intro rfl (And.intro (And.intro rfl trivial) (And.intro rfl (And.intro rfl trivial))))))))))
    · refine Or.inl ?_
      obtain ⟨r4, hr4, hF⟩ := bindE hF
      refine Or.inl (And.intro f143_in (callV0 (callI C143 ((a.1, a.2), (r3.2.1, r3.2.2)) r4 [] true C143_holds hr4 rfl rfl ?_)))
      refine (And.intro rfl (And.intro rfl (And.intro rfl (And.intro rfl (And.intro (fun _ => rfl) (And.intro rfl (And.intro rfl (And.intro trivial (And.intro trivial ?_)))))))))
      refine Or.inl ?_
      have hy := someE hF
      subst hy
      refine And.intro rfl (Exists.intro [] (Exists.intro [] (Exists.intro [] (Exists.intro [] (Exists.intro [(0, some 6), (1, some 7)] (And.intro rfl (And.intro rfl (And.intro (And.intro rfl trivial) (And.intro rfl (And.intro rfl trivial))))))))))
theorem C112_holds : C112.Holds Tryz.prog 112 := holds_of_vc tab_ok mixed (fn := Tryz.f112) (by kernel_rfl) rfl C112 (fun x y hF => C112_vc x.1 x.2.1 x.2.2 y hF)
theorem f112_in : ∃ fn, Tryz.prog.funcs[112]? = some fn ∧ fn.body.isSome = true ∧ (fn.name == "runtime.NumGoroutine") = false := ⟨Tryz.f112, by kernel_rfl, by kernel_rfl, by kernel_rfl⟩
end Go.Proofs
namespace Go.Proofs
open Go.AM
-- carousel/back.spread
def f114_l1 (g : (List Int) × (List Int)) (d : List Int) (side : Int) (q8_9 : Int × (List Int) × (List Int)) (go : (Int × (List Int)) → Option (List Int)) (v23 : Int) (l4 : List Int) : Option (List Int) :=
  bif (decide (v23 < (List.length q8_9.2.2 : Int))) then
    bindF (f146 d v23) fun q8_9 =>
    guardF (0 ≤ side ∧ side ≤ (List.length q8_9.2 : Int)) <|
    guardF (0 ≤ (IntKind.i64.wrap (side + (1 : Int))) ∧ (IntKind.i64.wrap (side + (1 : Int))) ≤ (List.length q8_9.2 : Int)) <|
    guardF ((List.length ([] : List Int) + List.length (List.take (Int.toNat side) q8_9.2)) * 8 ≤ 140737488355328) <|
    guardF ((List.length (([] : List Int) ++ (List.take (Int.toNat side) q8_9.2)) + List.length (List.drop (Int.toNat (IntKind.i64.wrap (side + (1 : Int)))) q8_9.2)) * 8 ≤ 140737488355328) <|
    bindF (f147 g.1 ((([] : List Int) ++ (List.take (Int.toNat side) q8_9.2)) ++ (List.drop (Int.toNat (IntKind.i64.wrap (side + (1 : Int)))) q8_9.2))) fun q6_10 =>
    guardF (0 ≤ q6_10.1 ∧ q6_10.1 < (List.length g.2 : Int)) <|
    guardF (0 ≤ v23 ∧ v23 < (List.length l4 : Int)) <|
    go ((IntKind.i64.wrap (v23 + (1 : Int))), (List.set l4 (Int.toNat v23) (rd (0 : Int) g.2 q6_10.1)))
  else
    some l4
def f114 (g : (List Int) × (List Int)) (d : List Int) (side : Int) : Option ((List Int) × (List Int)) :=
  bindF (f52 d (0 : Int)) fun q8_9 =>
  bindF (loopF (fun go x => f114_l1 g d side q8_9 go x.1 x.2) fuelN ((0 : Int), q8_9.2.2)) fun z2 =>
  some (q8_9.2.1, z2)
def C114 : Con where
  X := ((List Int) × (List Int)) × (List Int) × Int
  Y := (List Int) × (List Int)
  e := 0
  args x := [.dat (.p (.sl (.int .i64)) (.sl (.int .i64))) x.1, .dat (.sl (.int .i64)) x.2.1, .dat (.int .i64) x.2.2]
  hin x := []
  F x := f114 x.1 x.2.1 x.2.2
  ret y := [.raw true [(.osl 0), (.osl 1)]]
  hout y := [(0, .arr 3 (.int .i64) y.1), (1, .arr 23 (.int .i64) y.2)]
  nout := 2
theorem C114_vc (g : (List Int) × (List Int)) (d : List Int) (side : Int) (y : (List Int) × (List Int)) (hF : f114 g d side = some y) : vc Tryz.prog tab Tryz.f114.ntmps 0 (match Tryz.f114.body with | some c => c | none => .skip) (retK tab C114 Tryz.f114.results.toList y) (C114.shIn (g, d, side)).st := by
  unfold f114 at hF
  refine Or.inl ?_
  refine Or.inl ?_
  obtain ⟨q8_9, hq8_9, hF⟩ := bindE hF
  refine Or.inl (And.intro f52_in (callV0 (callI C52 (d, (0 : Int)) q8_9 [] false C52_holds hq8_9 rfl rfl ?_)))
  refine (And.intro rfl (And.intro rfl (And.intro (fun h => nomatch h) (And.intro rfl (And.intro rfl (And.intro trivial (And.intro trivial ?_)))))))
  refine Or.inl ?_
  refine Or.inl ?_
  refine Or.inl ?_
  obtain ⟨z2, hz2, hF⟩ := bindE hF
  refine loopI (Int × (List Int)) (List Int) (fun x => ⟨[(1, .dat (.sl (.int .i64)) d), (2, .dat (.int .i64) side), (3, .raw false [(.ptr 0 0)]), (6, .raw false [(.ptr 1 0)]), (7, .raw false [(.ptr 2 0)]), (22, .dat (.int .i64) (List.length q8_9.2.2 : Int)), (23, .dat (.int .i64) x.1)], [(0, .cells [(.d (.sl (.int .i64)) g.1), (.d (.sl (.int .i64)) g.2)]), (1, .cells [(.c (.slice none 0 0)), (.c (.slice none 0 0))]), (2, .cells [(.osl 3), (.osl 4)]), (3, .arr 3 (.int .i64) q8_9.2.1), (4, .arr 23 (.int .i64) x.2)], 5⟩) (fun z => [(2, ⟨[(6, .raw false [(.ptr 0 0)]), (7, .raw false [(.ptr 1 0)])], [(0, .cells [(.c (.slice none 0 0)), (.c (.slice none 0 0))]), (1, .cells [(.osl 2), (.osl 3)]), (2, .arr 3 (.int .i64) q8_9.2.1), (3, .arr 23 (.int .i64) z)], 4⟩)]) (loopF (fun go x => f114_l1 g d side q8_9 go x.1 x.2)) fuelN ((0 : Int), q8_9.2.2) z2 (And.intro hz2 (And.intro (Exists.intro [] (Exists.intro [] (Exists.intro [] (Exists.intro [] (Exists.intro [(0, some 0), (1, some 1), (2, some 4), (3, some 2), (4, some 3)] (And.intro rfl (And.intro rfl (And.intro rfl (And.intro rfl (And.intro rfl (And.intro (And.intro rfl (And.intro rfl (And.intro rfl trivial))) (And.intro rfl (And.intro rfl (And.intro rfl (And.intro rfl (And.intro rfl trivial)))))))))))))))) (And.intro (fun _ _ h => loopZ h) (And.intro (fun m => curI (fun v23 => fun l4 z hF => ?_)) ?_))))
  · have hF : f114_l1 g d side q8_9 (loopF (fun go x => f114_l1 g d side q8_9 go x.1 x.2) m) v23 l4 = some z := hF
    unfold f114_l1 at hF
    refine Or.inl ?_
    refine Or.inl ?_
    refine condI hF (fun hF => ?_) (fun hF => ?_)
    · refine Or.inl ?_
      refine Or.inl ?_
      refine Or.inl ?_
      obtain ⟨q8_9, hq8_9, hF⟩ := bindE hF
      refine Or.inl (And.intro f146_in (callV0 (callI C146 (d, v23) q8_9 [] false C146_holds hq8_9 rfl rfl ?_)))
      refine (And.intro rfl (And.intro rfl (And.intro (fun h => nomatch h) (And.intro rfl (And.intro rfl (And.intro trivial (And.intro trivial ?_)))))))
      refine Or.inl ?_
      refine Exists.intro (.take 1 (.take 2 (.take 3 (.take 5 (.take 6 (.take 7 (.take 8 (.alt 0 (.alt 4 (.alt 9 (.take 10 .done) .done) .done) .done)))))))) (Exists.intro [] (Exists.intro [5] (And.intro rfl ?_)))
      refine guardI hF (fun hF => ?_)
      refine guardI hF (fun hF => ?_)
      refine And.intro trivial ?_
      refine Or.inl ?_
      refine And.intro trivial ?_
      refine Or.inl ?_
      refine guardI hF (fun hF => ?_)
      refine And.intro trivial ?_
      refine Or.inl ?_
      refine guardI hF (fun hF => ?_)
      refine Or.inl ?_
      obtain ⟨q6_10, hq6_10, hF⟩ := bindE hF
      refine Or.inl (And.intro f147_in (callV0 (callI C147 (g.1, ((([] : List Int) ++ (List.take (Int.toNat side) q8_9.2)) ++ (List.drop (Int.toNat (IntKind.i64.wrap (side + (1 : Int)))) q8_9.2))) q6_10 [] true C147_holds hq6_10 rfl rfl ?_)))
      refine (And.intro rfl (And.intro rfl (And.intro (fun _ => rfl) (And.intro rfl (And.intro rfl (And.intro trivial (And.intro trivial ?_)))))))
      refine Exists.intro (.take 0 (.take 1 (.take 2 (.take 3 (.take 4 (.take 5 (.take 6 (.take 7 (.take 8 (.alt 9 .done .done)))))))))) (Exists.intro [] (Exists.intro [] (And.intro rfl ?_)))
      refine guardI hF (fun hF => ?_)
      refine guardI hF (fun hF => ?_)
      refine And.intro trivial ?_
      refine Or.inl ?_
      refine Exists.intro ((IntKind.i64.wrap (v23 + (1 : Int))), (List.set l4 (Int.toNat v23) (rd (0 : Int) g.2 q6_10.1))) (And.intro hF (Exists.intro [] (Exists.intro [] (Exists.intro [] (Exists.intro [] (Exists.intro [(0, some 0), (1, some 1), (2, some 2), (3, some 3), (4, some 4)] (And.intro rfl (And.intro rfl (And.intro rfl (And.intro rfl (And.intro rfl (And.intro (And.intro rfl (And.intro rfl (And.intro rfl trivial))) (And.intro rfl (And.intro rfl (And.intro rfl (And.intro rfl (And.intro rfl trivial)))))))))))))))))
    · have hz := someE hF
      subst hz
      refine Exists.intro [] (Exists.intro [] (Exists.intro [] (Exists.intro [] (Exists.intro [(0, some 1), (1, some 2), (2, some 3), (3, some 4)] (And.intro rfl (And.intro (And.intro rfl (And.intro rfl trivial)) (And.intro rfl (And.intro rfl (And.intro rfl (And.intro rfl trivial))))))))))
  · refine And.intro ?_ trivial
    refine Or.inl ?_
    refine Or.inl ?_
    have hy := someE hF
    subst hy
    refine And.intro rfl (Exists.intro [] (Exists.intro [] (Exists.intro [] (Exists.intro [] (Exists.intro [(0, some 2), (1, some 3)] (And.intro rfl (And.intro (And.intro rfl trivial) (And.intro rfl (And.intro rfl trivial)))))))))
theorem C114_holds : C114.Holds Tryz.prog 114 := holds_of_vc tab_ok mixed (fn := Tryz.f114) (by kernel_rfl) rfl C114 (fun x y hF => C114_vc x.1 x.2.1 x.2.2 y hF)
theorem f114_in : ∃ fn, Tryz.prog.funcs[114]? = some fn ∧ fn.body.isSome = true ∧ (fn.name == "runtime.NumGoroutine") = false := ⟨Tryz.f114, by kernel_rfl, by kernel_rfl, by kernel_rfl⟩
end Go.Proofs
namespace Go.Proofs
open Go.AM
-- carousel/act.one
def f184 (is : Bool) (yes : Int) (no : Int) : Option Int :=
  bif is then
    some yes
  else
    some no
def C184 : Con where
  X := Bool × Int × Int
  Y := Int
  e := 0
  args x := [.dat .bool x.1, .dat (.int .i64) x.2.1, .dat (.int .i64) x.2.2]
  hin x := []
  F x := f184 x.1 x.2.1 x.2.2
  ret y := [.dat (.int .i64) y]
  hout y := []
  nout := 0
theorem C184_vc (is : Bool) (yes : Int) (no : Int) (y : Int) (hF : f184 is yes no = some y) : vc Tryz.prog tab Tryz.f184.ntmps 0 (match Tryz.f184.body with | some c => c | none => .skip) (retK tab C184 Tryz.f184.results.toList y) (C184.shIn (is, yes, no)).st := by
  unfold f184 at hF
  refine Or.inl ?_
  refine Or.inl ?_
  refine Or.inl ?_
  refine condI hF (fun hF => ?_) (fun hF => ?_)
  · refine Or.inl ?_
    have hy := someE hF
    subst hy
    refine And.intro rfl (Exists.intro [] (Exists.intro [] (Exists.intro [] (Exists.intro [] (Exists.intro [] (And.intro rfl (And.intro rfl (And.intro trivial trivial))))))))
  · refine Or.inl ?_
    have hy := someE hF
    subst hy
    refine And.intro rfl (Exists.intro [] (Exists.intro [] (Exists.intro [] (Exists.intro [] (Exists.intro [] (And.intro rfl (And.intro rfl (And.intro trivial trivial))))))))
theorem C184_holds : C184.Holds Tryz.prog 184 := holds_of_vc tab_ok mixed (fn := Tryz.f184) (by kernel_rfl) rfl C184 (fun x y hF => C184_vc x.1 x.2.1 x.2.2 y hF)
theorem f184_in : ∃ fn, Tryz.prog.funcs[184]? = some fn ∧ fn.body.isSome = true ∧ (fn.name == "runtime.NumGoroutine") = false := ⟨Tryz.f184, by kernel_rfl, by kernel_rfl, by kernel_rfl⟩
end Go.Proofs
namespace Go.Proofs
open Go.AM
-- carousel/fix.Cmp
def f185 (a : Int) (b : Int) : Option Int :=
  bif (decide (a < b)) then
    some (-1 : Int)
  else
    bif (decide (a > b)) then
      some (1 : Int)
    else
      some (0 : Int)
def C185 : Con where
  X := Int × Int
  Y := Int
  e := 0
  args x := [.dat (.int .i64) x.1, .dat (.int .i64) x.2]
  hin x := []
  F x := f185 x.1 x.2
  ret y := [.dat (.int .i64) y]
  hout y := []
  nout := 0
theorem C185_vc (a : Int) (b : Int) (y : Int) (hF : f185 a b = some y) : vc Tryz.prog tab Tryz.f185.ntmps 0 (match Tryz.f185.body with | some c => c | none => .skip) (retK tab C185 Tryz.f185.results.toList y) (C185.shIn (a, b)).st := by
  unfold f185 at hF
  refine Or.inl ?_
  refine Or.inl ?_
  refine Or.inl ?_
  refine condI hF (fun hF => ?_) (fun hF => ?_)
  · refine Or.inl ?_
    have hy := someE hF
    subst hy
    refine And.intro rfl (Exists.intro [] (Exists.intro [] (Exists.intro [] (Exists.intro [] (Exists.intro [] (And.intro rfl (And.intro rfl (And.intro trivial trivial))))))))
  · refine Or.inl ?_
    refine condI hF (fun hF => ?_) (fun hF => ?_)
    · refine Or.inl ?_
      have hy := someE hF
      subst hy
      refine And.intro rfl (Exists.intro [] (Exists.intro [] (Exists.intro [] (Exists.intro [] (Exists.intro [] (And.intro rfl (And.intro rfl (And.intro trivial trivial))))))))
    · refine Or.inl ?_
      have hy := someE hF
      subst hy
      refine And.intro rfl (Exists.intro [] (Exists.intro [] (Exists.intro [] (Exists.intro [] (Exists.intro [] (And.intro rfl (And.intro rfl (And.intro trivial trivial))))))))
theorem C185_holds : C185.Holds Tryz.prog 185 := holds_of_vc tab_ok mixed (fn := Tryz.f185) (by kernel_rfl) rfl C185 (fun x y hF => C185_vc x.1 x.2 y hF)
theorem f185_in : ∃ fn, Tryz.prog.funcs[185]? = some fn ∧ fn.body.isSome = true ∧ (fn.name == "runtime.NumGoroutine") = false := ⟨Tryz.f185, by kernel_rfl, by kernel_rfl, by kernel_rfl⟩
end Go.Proofs
