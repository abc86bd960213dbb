import Derived.Test.YtmkekohdmdjdlaaTapeKeepsF4
set_option linter.unusedVariables false
set_option maxRecDepth 100000
set_option maxHeartbeats 8000000
namespace Go.Proofs
open Go.AM
-- carousel/carousellaw10.awake
def f26 : Option Bool :=
  bindF (f27) fun q8_36 =>
  bindF (f30 ([(8589934592 : Int)])) fun r1 =>
  bindF (f28 ([]) (r1.2, r1.1)) fun r2 =>
  bindF (f30 ([(12884901888 : Int)])) fun r3 =>
  bindF (f28 r2.2.2 (r3.2, r3.1)) fun r4 =>
  bindF (f29 r4.2.2 (4 : Int) r2.1 r4.1 (0 : Int)) fun r5 =>
  bindF (f32 r5.2.2 r5.1) fun r6 =>
  bif (r2.2.1 == (0 : Int)) then
    bif (r4.2.1 == (0 : Int)) then
      bif (r5.2.1 == (0 : Int)) then
        bif (r2.1 == (0 : Int)) then
          bif (r4.1 == (1 : Int)) then
            bif (r5.1 == (2 : Int)) then
              bif r6.1 then
                bindF (f30 ([(25769803776 : Int)])) fun q8_28 =>
                bindF (f19 (r6.2.1, r6.2.2.1) (q8_28.2, q8_28.1)) fun q8_29 =>
                bif q8_29 then
                  bindF (f33 r6.2.2.2) fun q8_33 =>
                  some (q8_33.1 == (3 : Int))
                else
                  some false
              else
                some false
            else
              some false
          else
            some false
        else
          some false
      else
        some false
    else
      some false
  else
    some false
def C26 : Con where
  X := Unit
  Y := Bool
  e := 0
  args x := []
  hin x := []
  F x := f26
  ret y := [.dat .bool y]
  hout y := []
  nout := 0
theorem C26_vc (y : Bool) (hF : f26 = some y) : vc Try.prog tab Try.f26.ntmps 0 (match Try.f26.body with | some c => c | none => .skip) (retK tab C26 Try.f26.results.toList y) (C26.shIn ()).st := by
  unfold f26 at hF
  refine Or.inl ?_
  refine Or.inl ?_
  obtain ⟨q8_36, hq8_36, hF⟩ := bindE hF
  refine Or.inl (And.intro f27_in (callV0 (callI C27 () q8_36 [] false C27_holds hq8_36 rfl rfl ?_)))
  refine (And.intro (fun h => nomatch h) (And.intro rfl (And.intro rfl (And.intro trivial (And.intro trivial ?_)))))
  refine Or.inl ?_
  refine Or.inl ?_
  refine condF ?_
  refine Or.inl ?_
  refine Or.inl ?_
  obtain ⟨r1, hr1, hF⟩ := bindE hF
  refine Or.inl (And.intro f30_in (callV0 (callI C30 [(8589934592 : Int)] r1 [] false C30_holds hr1 rfl rfl ?_)))
  refine (And.intro rfl (And.intro (fun h => nomatch h) (And.intro rfl (And.intro rfl (And.intro trivial (And.intro trivial ?_))))))
  obtain ⟨r2, hr2, hF⟩ := bindE hF
  refine Or.inl (And.intro f28_in (callV0 (callI C28 ([], (r1.2, r1.1)) r2 [(0, some 0), (1, some 1)] false C28_holds hr2 rfl rfl ?_)))
  refine (And.intro rfl (And.intro rfl (And.intro (fun h => nomatch h) (And.intro rfl (And.intro rfl (And.intro (And.intro rfl trivial) (And.intro (And.intro rfl (And.intro rfl trivial)) ?_)))))))
  refine Or.inl ?_
  refine Or.inl ?_
  obtain ⟨r3, hr3, hF⟩ := bindE hF
  refine Or.inl (And.intro f30_in (callV0 (callI C30 [(12884901888 : Int)] r3 [] false C30_holds hr3 rfl rfl ?_)))
  refine (And.intro rfl (And.intro (fun h => nomatch h) (And.intro rfl (And.intro rfl (And.intro trivial (And.intro trivial ?_))))))
  obtain ⟨r4, hr4, hF⟩ := bindE hF
  refine Or.inl (And.intro f28_in (callV0 (callI C28 (r2.2.2, (r3.2, r3.1)) r4 [(0, some 0), (1, some 6)] false C28_holds hr4 rfl rfl ?_)))
  refine (And.intro rfl (And.intro rfl (And.intro (fun h => nomatch h) (And.intro rfl (And.intro rfl (And.intro (And.intro rfl trivial) (And.intro (And.intro rfl (And.intro rfl trivial)) ?_)))))))
  refine Or.inl ?_
  obtain ⟨r5, hr5, hF⟩ := bindE hF
  refine Or.inl (And.intro f29_in (callV0 (callI C29 (r4.2.2, (4 : Int), r2.1, r4.1, (0 : Int)) r5 [(0, some 0), (1, some 11)] false C29_holds hr5 rfl rfl ?_)))
  refine (And.intro rfl (And.intro rfl (And.intro rfl (And.intro rfl (And.intro (fun h => nomatch h) (And.intro rfl (And.intro rfl (And.intro (And.intro rfl trivial) (And.intro (And.intro rfl (And.intro rfl trivial)) ?_)))))))))
  refine Or.inl ?_
  obtain ⟨r6, hr6, hF⟩ := bindE hF
  refine Or.inl (And.intro f32_in (callV0 (callI C32 (r5.2.2, r5.1) r6 [(0, some 0), (1, some 14)] false C32_holds hr6 rfl rfl ?_)))
  refine (And.intro rfl (And.intro (fun h => nomatch h) (And.intro rfl (And.intro rfl (And.intro (And.intro rfl trivial) (And.intro (And.intro rfl (And.intro rfl trivial)) ?_))))))
  refine Or.inl ?_
  refine Or.inl ?_
  refine Exists.intro (.take 0 (.take 1 (.take 2 (.take 3 (.take 4 (.take 5 (.take 6 (.take 7 (.take 8 (.take 9 (.take 10 (.take 11 (.take 12 (.take 13 (.take 14 (.take 15 (.take 16 (.take 17 (.take 18 (.take 19 (.take 20 (.take 21 (.take 22 (.take 23 (.take 24 (.take 25 (.take 26 (.alt 27 (.alt 28 (.alt 29 (.take 30 (.take 31 (.take 32 (.alt 33 (.take 34 (.take 35 (.take 36 .done))) .done)))) .done) .done) .done)))))))))))))))))))))))))))) (Exists.intro [] (Exists.intro [] (And.intro rfl ?_)))
  refine condI hF (fun hF => ?_) (fun hF => ?_)
  · refine gdYT ?_
    refine condT ?_
    refine condI hF (fun hF => ?_) (fun hF => ?_)
    · refine gdYT ?_
      refine condT ?_
      refine condI hF (fun hF => ?_) (fun hF => ?_)
      · refine gdYT ?_
        refine condT ?_
        refine condI hF (fun hF => ?_) (fun hF => ?_)
        · refine gdYT ?_
          refine condT ?_
          refine condI hF (fun hF => ?_) (fun hF => ?_)
          · refine gdYT ?_
            refine condT ?_
            refine condI hF (fun hF => ?_) (fun hF => ?_)
            · refine condT ?_
              refine condI hF (fun hF => ?_) (fun hF => ?_)
              · refine And.intro trivial ?_
                refine gdYT ?_
                refine Or.inl ?_
                refine And.intro trivial ?_
                refine gdYT ?_
                obtain ⟨q8_28, hq8_28, hF⟩ := bindE hF
                refine Or.inl (And.intro f30_in (callV0 (callI C30 [(25769803776 : Int)] q8_28 [] false C30_holds hq8_28 rfl rfl ?_)))
                refine (And.intro rfl (And.intro (fun h => nomatch h) (And.intro rfl (And.intro rfl (And.intro trivial (And.intro trivial ?_))))))
                refine And.intro trivial ?_
                refine gdYT ?_
                obtain ⟨q8_29, hq8_29, hF⟩ := bindE hF
                refine Or.inl (And.intro f19_in (callV0 (callI C19 ((r6.2.1, r6.2.2.1), (q8_28.2, q8_28.1)) q8_29 [] true C19_holds hq8_29 rfl rfl ?_)))
                refine (And.intro rfl (And.intro rfl (And.intro rfl (And.intro rfl (And.intro (fun _ => rfl) (And.intro rfl (And.intro rfl (And.intro trivial (And.intro trivial ?_)))))))))
                refine condT ?_
                refine condI hF (fun hF => ?_) (fun hF => ?_)
                · refine And.intro trivial ?_
                  refine gdYT ?_
                  obtain ⟨q8_33, hq8_33, hF⟩ := bindE hF
                  refine Or.inl (And.intro f33_in (callV0 (callI C33 r6.2.2.2 q8_33 [(0, some 0), (1, some 14)] false C33_holds hq8_33 rfl rfl ?_)))
                  refine (And.intro (fun h => nomatch h) (And.intro rfl (And.intro rfl (And.intro (And.intro rfl trivial) (And.intro (And.intro rfl (And.intro rfl trivial)) ?_)))))
                  refine gdYT ?_
                  refine condT ?_
                  have hy := someE hF
                  subst hy
                  refine And.intro rfl (Exists.intro [] (Exists.intro [] (Exists.intro [] (Exists.intro [] (Exists.intro [] (And.intro rfl (And.intro rfl (And.intro trivial trivial))))))))
                · refine And.intro trivial ?_
                  refine gdNT ?_
                  refine gdNT ?_
                  refine condF ?_
                  have hy := someE hF
                  subst hy
                  refine And.intro rfl (Exists.intro [] (Exists.intro [] (Exists.intro [] (Exists.intro [] (Exists.intro [] (And.intro rfl (And.intro rfl (And.intro trivial trivial))))))))
              · refine And.intro trivial ?_
                refine gdNT ?_
                refine And.intro trivial ?_
                refine gdNT ?_
                refine And.intro trivial ?_
                refine gdNT ?_
                refine condF ?_
                refine gdNT ?_
                refine And.intro trivial ?_
                refine gdNT ?_
                refine gdNT ?_
                refine condF ?_
                have hy := someE hF
                subst hy
                refine And.intro rfl (Exists.intro [] (Exists.intro [] (Exists.intro [] (Exists.intro [] (Exists.intro [] (And.intro rfl (And.intro rfl (And.intro trivial trivial))))))))
            · refine condF ?_
              refine gdNT ?_
              refine And.intro trivial ?_
              refine gdNT ?_
              refine And.intro trivial ?_
              refine gdNT ?_
              refine And.intro trivial ?_
              refine gdNT ?_
              refine condF ?_
              refine gdNT ?_
              refine And.intro trivial ?_
              refine gdNT ?_
              refine gdNT ?_
              refine condF ?_
              have hy := someE hF
              subst hy
              refine And.intro rfl (Exists.intro [] (Exists.intro [] (Exists.intro [] (Exists.intro [] (Exists.intro [] (And.intro rfl (And.intro rfl (And.intro trivial trivial))))))))
          · refine gdNT ?_
            refine condF ?_
            refine gdNT ?_
            refine condF ?_
            refine gdNT ?_
            refine And.intro trivial ?_
            refine gdNT ?_
            refine And.intro trivial ?_
            refine gdNT ?_
            refine And.intro trivial ?_
            refine gdNT ?_
            refine condF ?_
            refine gdNT ?_
            refine And.intro trivial ?_
            refine gdNT ?_
            refine gdNT ?_
            refine condF ?_
            have hy := someE hF
            subst hy
            refine And.intro rfl (Exists.intro [] (Exists.intro [] (Exists.intro [] (Exists.intro [] (Exists.intro [] (And.intro rfl (And.intro rfl (And.intro trivial trivial))))))))
        · refine gdNT ?_
          refine condF ?_
          refine gdNT ?_
          refine gdNT ?_
          refine condF ?_
          refine gdNT ?_
          refine condF ?_
          refine gdNT ?_
          refine And.intro trivial ?_
          refine gdNT ?_
          refine And.intro trivial ?_
          refine gdNT ?_
          refine And.intro trivial ?_
          refine gdNT ?_
          refine condF ?_
          refine gdNT ?_
          refine And.intro trivial ?_
          refine gdNT ?_
          refine gdNT ?_
          refine condF ?_
          have hy := someE hF
          subst hy
          refine And.intro rfl (Exists.intro [] (Exists.intro [] (Exists.intro [] (Exists.intro [] (Exists.intro [] (And.intro rfl (And.intro rfl (And.intro trivial trivial))))))))
      · refine gdNT ?_
        refine condF ?_
        refine gdNT ?_
        refine gdNT ?_
        refine condF ?_
        refine gdNT ?_
        refine gdNT ?_
        refine condF ?_
        refine gdNT ?_
        refine condF ?_
        refine gdNT ?_
        refine And.intro trivial ?_
        refine gdNT ?_
        refine And.intro trivial ?_
        refine gdNT ?_
        refine And.intro trivial ?_
        refine gdNT ?_
        refine condF ?_
        refine gdNT ?_
        refine And.intro trivial ?_
        refine gdNT ?_
        refine gdNT ?_
        refine condF ?_
        have hy := someE hF
        subst hy
        refine And.intro rfl (Exists.intro [] (Exists.intro [] (Exists.intro [] (Exists.intro [] (Exists.intro [] (And.intro rfl (And.intro rfl (And.intro trivial trivial))))))))
    · refine gdNT ?_
      refine condF ?_
      refine gdNT ?_
      refine gdNT ?_
      refine condF ?_
      refine gdNT ?_
      refine gdNT ?_
      refine condF ?_
      refine gdNT ?_
      refine gdNT ?_
      refine condF ?_
      refine gdNT ?_
      refine condF ?_
      refine gdNT ?_
      refine And.intro trivial ?_
      refine gdNT ?_
      refine And.intro trivial ?_
      refine gdNT ?_
      refine And.intro trivial ?_
      refine gdNT ?_
      refine condF ?_
      refine gdNT ?_
      refine And.intro trivial ?_
      refine gdNT ?_
      refine gdNT ?_
      refine condF ?_
      have hy := someE hF
      subst hy
      refine And.intro rfl (Exists.intro [] (Exists.intro [] (Exists.intro [] (Exists.intro [] (Exists.intro [] (And.intro rfl (And.intro rfl (And.intro trivial trivial))))))))
  · refine gdNT ?_
    refine condF ?_
    refine gdNT ?_
    refine gdNT ?_
    refine condF ?_
    refine gdNT ?_
    refine gdNT ?_
    refine condF ?_
    refine gdNT ?_
    refine gdNT ?_
    refine condF ?_
    refine gdNT ?_
    refine gdNT ?_
    refine condF ?_
    refine gdNT ?_
    refine condF ?_
    refine gdNT ?_
    refine And.intro trivial ?_
    refine gdNT ?_
    refine And.intro trivial ?_
    refine gdNT ?_
    refine And.intro trivial ?_
    refine gdNT ?_
    refine condF ?_
    refine gdNT ?_
    refine And.intro trivial ?_
    refine gdNT ?_
    refine gdNT ?_
    refine condF ?_
    have hy := someE hF
    subst hy
    refine And.intro rfl (Exists.intro [] (Exists.intro [] (Exists.intro [] (Exists.intro [] (Exists.intro [] (And.intro rfl (And.intro rfl (And.intro trivial trivial))))))))
theorem C26_holds : C26.Holds Try.prog 26 := holds_of_vc tab_ok mixed (fn := Try.f26) (by kernel_rfl) rfl C26 (fun x y hF => C26_vc y hF)
theorem f26_in : ∃ fn, Try.prog.funcs[26]? = some fn ∧ fn.body.isSome = true ∧ (fn.name == "runtime.NumGoroutine") = false := ⟨Try.f26, by kernel_rfl, by kernel_rfl, by kernel_rfl⟩
end Go.Proofs
namespace Go.Proofs
open Go.AM
-- carousel/carousellaw10.row
def f30_o (v : List Int) : Option ((List Int) × (List Int)) :=
  some ([(List.length v : Int)], v)
def C30_o : Con where
  X := List Int
  Y := (List Int) × (List Int)
  e := 1
  args x := [.raw false [(.osl 0)]]
  hin x := [(0, .arr 24 (.int .i64) x)]
  F x := f30_o x
  ret y := [.raw true [(.osl 1), (.osl 0)]]
  hout y := [(0, .arr 24 (.int .i64) y.2), (1, .arr 3 (.int .i64) y.1)]
  nout := 2
theorem C30_o_vc (v : List Int) (y : (List Int) × (List Int)) (hF : f30_o v = some y) : vc Try.prog tab Try.f30.ntmps 1 (match Try.f30.body with | some c => c | none => .skip) (retK tab C30_o Try.f30.results.toList y) (C30_o.shIn v).st := by
  unfold f30_o at hF
  refine Or.inl ?_
  refine Or.inl ?_
  refine Or.inl ?_
  refine Or.inl ?_
  have hy := someE hF
  subst hy
  refine And.intro rfl (Exists.intro [] (Exists.intro [] (Exists.intro [] (Exists.intro [] (Exists.intro [(0, some 0), (1, some 2)] (And.intro rfl (And.intro (And.intro rfl trivial) (And.intro rfl (And.intro rfl trivial)))))))))
theorem C30_o_holds : C30_o.Holds Try.prog 30 := holds_of_vc tab_ok mixed (fn := Try.f30) (by kernel_rfl) rfl C30_o (fun x y hF => C30_o_vc x y hF)
theorem f30_o_in : ∃ fn, Try.prog.funcs[30]? = some fn ∧ fn.body.isSome = true ∧ (fn.name == "runtime.NumGoroutine") = false := ⟨Try.f30, by kernel_rfl, by kernel_rfl, by kernel_rfl⟩
end Go.Proofs
namespace Go.Proofs
open Go.AM
-- (*carousel/tape.Tape).Leaf
def f28_o (t_l : List (Int × Int × Int × Int × (List Int) × (List Int))) (x_Dims : List Int) (x_V : List Int) : Option (Int × Int × (List Int) × (List Int) × (List (Int × Int × Int × Int × (List Int) × (List Int)))) :=
  bif (decide ((List.length t_l : Int) ≥ (512 : Int))) then
    some ((0 : Int), (2 : Int), x_Dims, x_V, t_l)
  else
    bindF (f42 (x_Dims, x_V)) fun r1 =>
    bif (!r1) then
      some ((0 : Int), (1 : Int), x_Dims, x_V, t_l)
    else
      bindF (f57 (x_Dims, x_V)) fun r2 =>
      bindF (f56 t_l ((1 : Int), (-1 : Int), (-1 : Int), (0 : Int), r2.1, r2.2)) fun r3 =>
      some (r3.1, (0 : Int), x_Dims, x_V, r3.2)
def C28_o : Con where
  X := (List (Int × Int × Int × Int × (List Int) × (List Int))) × (List Int) × (List Int)
  Y := Int × Int × (List Int) × (List Int) × (List (Int × Int × Int × Int × (List Int) × (List Int)))
  e := 4
  args x := [.raw false [(.ptr 0 0)], .raw true [(.osl 2), (.osl 3)]]
  hin x := [(0, .cells [(.osl 1)]), (1, .arr 51 (.p (.int .i64) (.p (.int .i64) (.p (.int .i64) (.p (.int .i64) (.p (.sl (.int .i64)) (.sl (.int .i64))))))) x.1), (2, .arr 3 (.int .i64) x.2.1), (3, .arr 24 (.int .i64) x.2.2)]
  F x := f28_o x.1 x.2.1 x.2.2
  ret y := [.dat (.int .i64) y.1, .dat (.int .i64) y.2.1]
  hout y := [(0, .cells [(.osl 4)]), (2, .arr 3 (.int .i64) y.2.2.1), (3, .arr 24 (.int .i64) y.2.2.2.1), (4, .arr 51 (.p (.int .i64) (.p (.int .i64) (.p (.int .i64) (.p (.int .i64) (.p (.sl (.int .i64)) (.sl (.int .i64))))))) y.2.2.2.2)]
  nout := 5
theorem C28_o_vc (t_l : List (Int × Int × Int × Int × (List Int) × (List Int))) (x_Dims : List Int) (x_V : List Int) (y : Int × Int × (List Int) × (List Int) × (List (Int × Int × Int × Int × (List Int) × (List Int)))) (hF : f28_o t_l x_Dims x_V = some y) : vc Try.prog tab Try.f28.ntmps 4 (match Try.f28.body with | some c => c | none => .skip) (retK tab C28_o Try.f28.results.toList y) (C28_o.shIn (t_l, x_Dims, x_V)).st := by
  unfold f28_o at hF
  refine Or.inl ?_
  refine Or.inl ?_
  refine Or.inl ?_
  refine condI hF (fun hF => ?_) (fun hF => ?_)
  · refine Or.inl ?_
    have hy := someE hF
    subst hy
    refine And.intro rfl (Exists.intro [] (Exists.intro [] (Exists.intro [] (Exists.intro [] (Exists.intro [(0, some 0), (2, some 2), (3, some 3), (4, some 1)] (And.intro rfl (And.intro rfl (And.intro rfl (And.intro trivial (And.intro rfl (And.intro rfl (And.intro rfl (And.intro rfl trivial)))))))))))))
  · refine Or.inl ?_
    obtain ⟨r1, hr1, hF⟩ := bindE hF
    refine Or.inl (And.intro f42_in (callV0 (callI C42 (x_Dims, x_V) r1 [] true C42_holds hr1 rfl rfl ?_)))
    refine (And.intro rfl (And.intro rfl (And.intro (fun _ => rfl) (And.intro rfl (And.intro rfl (And.intro trivial (And.intro trivial ?_)))))))
    refine condI hF (fun hF => ?_) (fun hF => ?_)
    · refine Or.inl ?_
      have hy := someE hF
      subst hy
      refine And.intro rfl (Exists.intro [] (Exists.intro [] (Exists.intro [] (Exists.intro [] (Exists.intro [(0, some 0), (2, some 2), (3, some 3), (4, some 1)] (And.intro rfl (And.intro rfl (And.intro rfl (And.intro trivial (And.intro rfl (And.intro rfl (And.intro rfl (And.intro rfl trivial)))))))))))))
    · refine Or.inl ?_
      obtain ⟨r2, hr2, hF⟩ := bindE hF
      refine Or.inl (And.intro f57_in (callV0 (callI C57 (x_Dims, x_V) r2 [] true C57_holds hr2 rfl rfl ?_)))
      refine (And.intro rfl (And.intro rfl (And.intro (fun _ => rfl) (And.intro rfl (And.intro rfl (And.intro trivial (And.intro trivial ?_)))))))
      obtain ⟨r3, hr3, hF⟩ := bindE hF
      have hr3 : C56.F (t_l, ((1 : Int), (-1 : Int), (-1 : Int), (0 : Int), r2.1, r2.2)) = some r3 := hr3
      refine Or.inl (And.intro f56_in (callV0 (callI C56 _ r3 [(0, some 0), (1, some 1)] false C56_holds hr3 rfl rfl ?_)))
      refine (And.intro rfl (And.intro rfl (And.intro (fun h => nomatch h) (And.intro rfl (And.intro rfl (And.intro (And.intro rfl trivial) (And.intro (And.intro rfl (And.intro rfl trivial)) ?_)))))))
      have hy := someE hF
      subst hy
      refine And.intro rfl (Exists.intro [] (Exists.intro [] (Exists.intro [] (Exists.intro [] (Exists.intro [(0, some 0), (2, some 2), (3, some 3), (4, some 9)] (And.intro rfl (And.intro rfl (And.intro rfl (And.intro trivial (And.intro rfl (And.intro rfl (And.intro rfl (And.intro rfl trivial)))))))))))))
theorem C28_o_holds : C28_o.Holds Try.prog 28 := holds_of_vc tab_ok mixed (fn := Try.f28) (by kernel_rfl) rfl C28_o (fun x y hF => C28_o_vc x.1 x.2.1 x.2.2 y hF)
theorem f28_o_in : ∃ fn, Try.prog.funcs[28]? = some fn ∧ fn.body.isSome = true ∧ (fn.name == "runtime.NumGoroutine") = false := ⟨Try.f28, by kernel_rfl, by kernel_rfl, by kernel_rfl⟩
end Go.Proofs
namespace Go.Proofs
open Go.AM
-- carousel/carousellaw10.TapeKeeps
def f11_j1 (l : List Int) : Option (Sum Unit Unit) :=
  bif (decide ((List.length l : Int) < (1 : Int))) then
    some (Sum.inr ())
  else
    bif (decide ((List.length l : Int) > (50 : Int))) then
      some (Sum.inr ())
    else
      some (Sum.inl ())
def f11 (l : List Int) : Option Bool :=
  bindF (f26) fun q13_11 =>
  bif (!q13_11) then
    some false
  else
    bindF (f11_j1 l) fun z1 =>
    sumF z1 (fun z1a =>
      guardF ((List.length ([] : List Int) + List.length l) * 8 ≤ 140737488355328) <|
      bindF (f30_o (([] : List Int) ++ l)) fun r2 =>
      bindF (f27) fun r3 =>
      bindF (f28_o ([]) r2.1 r2.2) fun r4 =>
      guardF (0 ≤ (0 : Int) ∧ (0 : Int) < (List.length r4.2.2.2.1 : Int)) <|
      guardF (0 ≤ (0 : Int) ∧ (0 : Int) < (List.length r4.2.2.2.1 : Int)) <|
      bindF (f32 r4.2.2.2.2 r4.1) fun q8_8 =>
      guardF (0 ≤ (0 : Int) ∧ (0 : Int) < (List.length q8_8.2.2.1 : Int)) <|
      guardF (0 ≤ (0 : Int) ∧ (0 : Int) < (List.length q8_8.2.1 : Int)) <|
      bindF (f32 q8_8.2.2.2 r4.1) fun r5 =>
      bif (r4.2.1 == (0 : Int)) then
        bif r5.1 then
          bindF (f30 l) fun q13_8 =>
          bindF (f19 (r5.2.1, r5.2.2.1) (q13_8.2, q13_8.1)) fun q13_9 =>
          some q13_9
        else
          some false
      else
        some false) (fun z1b =>
      some true)
def C11 : Con where
  X := List Int
  Y := Bool
  e := 0
  args x := [.dat (.sl (.int .i64)) x]
  hin x := []
  F x := f11 x
  ret y := [.dat .bool y]
  hout y := []
  nout := 0
theorem C11_vc (l : List Int) (y : Bool) (hF : f11 l = some y) : vc Try.prog tab Try.f11.ntmps 0 (match Try.f11.body with | some c => c | none => .skip) (retK tab C11 Try.f11.results.toList y) (C11.shIn l).st := by
  unfold f11 at hF
  refine Or.inl ?_
  refine Or.inl ?_
  refine Or.inl ?_
  obtain ⟨q13_11, hq13_11, hF⟩ := bindE hF
  refine Or.inl (And.intro f26_in (callV0 (callI C26 () q13_11 [] false C26_holds hq13_11 rfl rfl ?_)))
  refine (And.intro (fun h => nomatch h) (And.intro rfl (And.intro rfl (And.intro trivial (And.intro trivial ?_)))))
  refine condI hF (fun hF => ?_) (fun hF => ?_)
  · refine Or.inl ?_
    have hy := someE hF
    subst hy
    refine And.intro rfl (Exists.intro [] (Exists.intro [] (Exists.intro [] (Exists.intro [] (Exists.intro [] (And.intro rfl (And.intro rfl (And.intro trivial trivial))))))))
  · obtain ⟨z1, hz1, hF⟩ := bindE hF
    refine Or.inr ⟨Sum.elim (fun z1a => [(0, ⟨[(0, .dat (.sl (.int .i64)) l)], [], 0⟩)]) (fun z1b => [(1, ⟨[(2, .dat .bool true)], [], 0⟩)]) z1, ?_, ?_⟩
    · have hF := hz1
      clear hz1
      unfold f11_j1 at hF
      refine Or.inl ?_
      refine condN hF (fun hF => ?_) (fun hF => ?_)
      · refine gdYF ?_
        refine gdYF ?_
        refine condF ?_
        refine condI hF (fun hF => ?_) (fun hF => ?_)
        · refine Or.inl ?_
          have hz := someE hF
          subst hz
          refine Exists.intro [] (Exists.intro [] (Exists.intro [] (Exists.intro [] (Exists.intro [] (And.intro rfl (And.intro rfl (And.intro trivial trivial)))))))
        · have hz := someE hF
          subst hz
          refine Exists.intro [] (Exists.intro [] (Exists.intro [] (Exists.intro [] (Exists.intro [] (And.intro rfl (And.intro rfl (And.intro trivial trivial)))))))
      · refine gdNF ?_
        refine gdNF ?_
        refine condT ?_
        refine condT ?_
        refine Or.inl ?_
        have hz := someE hF
        subst hz
        refine Exists.intro [] (Exists.intro [] (Exists.intro [] (Exists.intro [] (Exists.intro [] (And.intro rfl (And.intro rfl (And.intro trivial trivial)))))))
    · rcases z1 with z1a | z1b
      · dsimp only [sumF] at hF
        refine And.intro ?_ trivial
        refine Or.inl ?_
        refine Or.inl ?_
        refine Or.inl ?_
        refine guardI hF (fun hF => ?_)
        obtain ⟨r2, hr2, hF⟩ := bindE hF
        refine Or.inl (And.intro f30_o_in (callV0 (callI C30_o (([] : List Int) ++ l) r2 [(0, some 1)] false C30_o_holds hr2 rfl rfl ?_)))
        refine (And.intro (fun h => nomatch h) (And.intro rfl (And.intro rfl (And.intro (And.intro rfl trivial) (And.intro (And.intro rfl trivial) ?_)))))
        refine Or.inl ?_
        refine Or.inl ?_
        obtain ⟨r3, hr3, hF⟩ := bindE hF
        refine Or.inl (And.intro f27_in (callV0 (callI C27 () r3 [] false C27_holds hr3 rfl rfl ?_)))
        refine (And.intro (fun h => nomatch h) (And.intro rfl (And.intro rfl (And.intro trivial (And.intro trivial ?_)))))
        refine Or.inl ?_
        obtain ⟨r4, hr4, hF⟩ := bindE hF
        refine Or.inl (And.intro f28_o_in (callV0 (callI C28_o ([], r2.1, r2.2) r4 [(0, some 5), (1, some 6), (2, some 3), (3, some 1)] false C28_o_holds hr4 rfl rfl ?_)))
        refine (And.intro (fun h => nomatch h) (And.intro rfl (And.intro rfl (And.intro (And.intro rfl (And.intro rfl trivial)) (And.intro (And.intro rfl (And.intro rfl (And.intro rfl (And.intro rfl trivial)))) ?_)))))
        refine Or.inl ?_
        refine Exists.intro (.take 0 (.take 1 (.take 2 (.take 3 (.take 4 (.take 5 (.take 6 (.take 7 (.alt 8 .done .done))))))))) (Exists.intro [(8, [1])] (Exists.intro [] (And.intro rfl ?_)))
        refine guardI hF (fun hF => ?_)
        refine guardI hF (fun hF => ?_)
        refine And.intro trivial ?_
        refine Or.inl ?_
        refine Or.inl ?_
        obtain ⟨q8_8, hq8_8, hF⟩ := bindE hF
        refine Or.inl (And.intro f32_in (callV0 (callI C32 (r4.2.2.2.2, r4.1) q8_8 [(0, some 5), (1, some 11)] false C32_holds hq8_8 rfl rfl ?_)))
        refine (And.intro rfl (And.intro (fun h => nomatch h) (And.intro rfl (And.intro rfl (And.intro (And.intro rfl trivial) (And.intro (And.intro rfl (And.intro rfl trivial)) ?_))))))
        refine Or.inl ?_
        refine Or.inl ?_
        refine guardI hF (fun hF => ?_)
        refine Or.inl ?_
        refine Or.inl ?_
        refine guardI hF (fun hF => ?_)
        refine Or.inl ?_
        refine Or.inl ?_
        obtain ⟨r5, hr5, hF⟩ := bindE hF
        refine Or.inl (And.intro f32_in (callV0 (callI C32 (q8_8.2.2.2, r4.1) r5 [(0, some 5), (1, some 11)] false C32_holds hr5 rfl rfl ?_)))
        refine (And.intro rfl (And.intro (fun h => nomatch h) (And.intro rfl (And.intro rfl (And.intro (And.intro rfl trivial) (And.intro (And.intro rfl (And.intro rfl trivial)) ?_))))))
        refine Or.inl ?_
        refine Or.inl ?_
        refine Exists.intro (.take 0 (.take 1 (.take 2 (.take 3 (.take 4 (.take 5 (.take 6 (.take 7 (.alt 8 (.alt 9 (.take 10 (.take 11 .done)) .done) .done))))))))) (Exists.intro [] (Exists.intro [] (And.intro rfl ?_)))
        refine condI hF (fun hF => ?_) (fun hF => ?_)
        · refine condT ?_
          refine condI hF (fun hF => ?_) (fun hF => ?_)
          · refine gdYT ?_
            refine And.intro trivial ?_
            refine gdYT ?_
            obtain ⟨q13_8, hq13_8, hF⟩ := bindE hF
            refine Or.inl (And.intro f30_in (callV0 (callI C30 l q13_8 [] false C30_holds hq13_8 rfl rfl ?_)))
            refine (And.intro rfl (And.intro (fun h => nomatch h) (And.intro rfl (And.intro rfl (And.intro trivial (And.intro trivial ?_))))))
            refine And.intro trivial ?_
            refine gdYT ?_
            obtain ⟨q13_9, hq13_9, hF⟩ := bindE hF
            refine Or.inl (And.intro f19_in (callV0 (callI C19 ((r5.2.1, r5.2.2.1), (q13_8.2, q13_8.1)) q13_9 [] true C19_holds hq13_9 rfl rfl ?_)))
            refine (And.intro rfl (And.intro rfl (And.intro rfl (And.intro rfl (And.intro (fun _ => rfl) (And.intro rfl (And.intro rfl (And.intro trivial (And.intro trivial ?_)))))))))
            refine condT ?_
            have hy := someE hF
            subst hy
            refine And.intro rfl (Exists.intro [] (Exists.intro [] (Exists.intro [] (Exists.intro [] (Exists.intro [] (And.intro rfl (And.intro rfl (And.intro trivial trivial))))))))
          · refine gdNT ?_
            refine And.intro trivial ?_
            refine gdNT ?_
            refine And.intro trivial ?_
            refine gdNT ?_
            refine condF ?_
            have hy := someE hF
            subst hy
            refine And.intro rfl (Exists.intro [] (Exists.intro [] (Exists.intro [] (Exists.intro [] (Exists.intro [] (And.intro rfl (And.intro rfl (And.intro trivial trivial))))))))
        · refine condF ?_
          refine gdNT ?_
          refine gdNT ?_
          refine And.intro trivial ?_
          refine gdNT ?_
          refine And.intro trivial ?_
          refine gdNT ?_
          refine condF ?_
          have hy := someE hF
          subst hy
          refine And.intro rfl (Exists.intro [] (Exists.intro [] (Exists.intro [] (Exists.intro [] (Exists.intro [] (And.intro rfl (And.intro rfl (And.intro trivial trivial))))))))
      · dsimp only [sumF] at hF
        refine And.intro ?_ trivial
        have hy := someE hF
        subst hy
        refine And.intro rfl (Exists.intro [] (Exists.intro [] (Exists.intro [] (Exists.intro [] (Exists.intro [] (And.intro rfl (And.intro rfl (And.intro trivial trivial))))))))
theorem C11_holds : C11.Holds Try.prog 11 := holds_of_vc tab_ok mixed (fn := Try.f11) (by kernel_rfl) rfl C11 (fun x y hF => C11_vc x y hF)
theorem f11_in : ∃ fn, Try.prog.funcs[11]? = some fn ∧ fn.body.isSome = true ∧ (fn.name == "runtime.NumGoroutine") = false := ⟨Try.f11, by kernel_rfl, by kernel_rfl, by kernel_rfl⟩
end Go.Proofs
