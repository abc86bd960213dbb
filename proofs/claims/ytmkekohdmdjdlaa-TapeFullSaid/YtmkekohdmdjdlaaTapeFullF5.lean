import Derived.Test.YtmkekohdmdjdlaaTapeFullF4
set_option linter.unusedVariables false
set_option maxRecDepth 100000
set_option maxHeartbeats 8000000
namespace Go.Proofs
open Go.AM
-- carousel/carousellaw10.awake
def f26 : Option Bool :=
  bindF (f27) fun q8_36 =>
  bindF (f30 ([(8589934592 : Int)])) fun r1 =>
  bindF (f28 ([]) (r1.2, r1.1)) fun r2 =>
  bindF (f30 ([(12884901888 : Int)])) fun r3 =>
  bindF (f28 r2.2.2 (r3.2, r3.1)) fun r4 =>
  bindF (f29 r4.2.2 (4 : Int) r2.1 r4.1 (0 : Int)) fun r5 =>
  bindF (f32 r5.2.2 r5.1) fun r6 =>
  bif (r2.2.1 == (0 : Int)) then
    bif (r4.2.1 == (0 : Int)) then
      bif (r5.2.1 == (0 : Int)) then
        bif (r2.1 == (0 : Int)) then
          bif (r4.1 == (1 : Int)) then
            bif (r5.1 == (2 : Int)) then
              bif r6.1 then
                bindF (f30 ([(25769803776 : Int)])) fun q8_28 =>
                bindF (f19 (r6.2.1, r6.2.2.1) (q8_28.2, q8_28.1)) fun q8_29 =>
                bif q8_29 then
                  bindF (f33 r6.2.2.2) fun q8_33 =>
                  some (q8_33.1 == (3 : Int))
                else
                  some false
              else
                some false
            else
              some false
          else
            some false
        else
          some false
      else
        some false
    else
      some false
  else
    some false
def C26 : Con where
  X := Unit
  Y := Bool
  e := 0
  args x := []
  hin x := []
  F x := f26
  ret y := [.dat .bool y]
  hout y := []
  nout := 0
theorem C26_vc (y : Bool) (hF : f26 = some y) : vc Try.prog tab Try.f26.ntmps 0 (match Try.f26.body with | some c => c | none => .skip) (retK tab C26 Try.f26.results.toList y) (C26.shIn ()).st := by
  unfold f26 at hF
  refine Or.inl ?_
  refine Or.inl ?_
  obtain ⟨q8_36, hq8_36, hF⟩ := bindE hF
  refine Or.inl (And.intro f27_in (callV0 (callI C27 () q8_36 [] false C27_holds hq8_36 rfl rfl ?_)))
  refine (And.intro (fun h => nomatch h) (And.intro rfl (And.intro rfl (And.intro trivial (And.intro trivial ?_)))))
  refine Or.inl ?_
  refine Or.inl ?_
  refine condF ?_
  refine Or.inl ?_
  refine Or.inl ?_
  obtain ⟨r1, hr1, hF⟩ := bindE hF
  refine Or.inl (And.intro f30_in (callV0 (callI C30 [(8589934592 : Int)] r1 [] false C30_holds hr1 rfl rfl ?_)))
  refine (And.intro rfl (And.intro (fun h => nomatch h) (And.intro rfl (And.intro rfl (And.intro trivial (And.intro trivial ?_))))))
  obtain ⟨r2, hr2, hF⟩ := bindE hF
  refine Or.inl (And.intro f28_in (callV0 (callI C28 ([], (r1.2, r1.1)) r2 [(0, some 0), (1, some 1)] false C28_holds hr2 rfl rfl ?_)))
  refine (And.intro rfl (And.intro rfl (And.intro (fun h => nomatch h) (And.intro rfl (And.intro rfl (And.intro (And.intro rfl trivial) (And.intro (And.intro rfl (And.intro rfl trivial)) ?_)))))))
  refine Or.inl ?_
  refine Or.inl ?_
  obtain ⟨r3, hr3, hF⟩ := bindE hF
  refine Or.inl (And.intro f30_in (callV0 (callI C30 [(12884901888 : Int)] r3 [] false C30_holds hr3 rfl rfl ?_)))
  refine (And.intro rfl (And.intro (fun h => nomatch h) (And.intro rfl (And.intro rfl (And.intro trivial (And.intro trivial ?_))))))
  obtain ⟨r4, hr4, hF⟩ := bindE hF
  refine Or.inl (And.intro f28_in (callV0 (callI C28 (r2.2.2, (r3.2, r3.1)) r4 [(0, some 0), (1, some 6)] false C28_holds hr4 rfl rfl ?_)))
  refine (And.intro rfl (And.intro rfl (And.intro (fun h => nomatch h) (And.intro rfl (And.intro rfl (And.intro (And.intro rfl trivial) (And.intro (And.intro rfl (And.intro rfl trivial)) ?_)))))))
  refine Or.inl ?_
  obtain ⟨r5, hr5, hF⟩ := bindE hF
  refine Or.inl (And.intro f29_in (callV0 (callI C29 (r4.2.2, (4 : Int), r2.1, r4.1, (0 : Int)) r5 [(0, some 0), (1, some 11)] false C29_holds hr5 rfl rfl ?_)))
  refine (And.intro rfl (And.intro rfl (And.intro rfl (And.intro rfl (And.intro (fun h => nomatch h) (And.intro rfl (And.intro rfl (And.intro (And.intro rfl trivial) (And.intro (And.intro rfl (And.intro rfl trivial)) ?_)))))))))
  refine Or.inl ?_
  obtain ⟨r6, hr6, hF⟩ := bindE hF
  refine Or.inl (And.intro f32_in (callV0 (callI C32 (r5.2.2, r5.1) r6 [(0, some 0), (1, some 14)] false C32_holds hr6 rfl rfl ?_)))
  refine (And.intro rfl (And.intro (fun h => nomatch h) (And.intro rfl (And.intro rfl (And.intro (And.intro rfl trivial) (And.intro (And.intro rfl (And.intro rfl trivial)) ?_))))))
  refine Or.inl ?_
  refine Or.inl ?_
  refine Exists.intro (.take 0 (.take 1 (.take 2 (.take 3 (.take 4 (.take 5 (.take 6 (.take 7 (.take 8 (.take 9 (.take 10 (.take 11 (.take 12 (.take 13 (.take 14 (.take 15 (.take 16 (.take 17 (.take 18 (.take 19 (.take 20 (.take 21 (.take 22 (.take 23 (.take 24 (.take 25 (.take 26 (.alt 27 (.alt 28 (.alt 29 (.take 30 (.take 31 (.take 32 (.alt 33 (.take 34 (.take 35 (.take 36 .done))) .done)))) .done) .done) .done)))))))))))))))))))))))))))) (Exists.intro [] (Exists.intro [] (And.intro rfl ?_)))
  refine condI hF (fun hF => ?_) (fun hF => ?_)
  · refine gdYT ?_
    refine condT ?_
    refine condI hF (fun hF => ?_) (fun hF => ?_)
    · refine gdYT ?_
      refine condT ?_
      refine condI hF (fun hF => ?_) (fun hF => ?_)
      · refine gdYT ?_
        refine condT ?_
        refine condI hF (fun hF => ?_) (fun hF => ?_)
        · refine gdYT ?_
          refine condT ?_
          refine condI hF (fun hF => ?_) (fun hF => ?_)
          · refine gdYT ?_
            refine condT ?_
            refine condI hF (fun hF => ?_) (fun hF => ?_)
            · refine condT ?_
              refine condI hF (fun hF => ?_) (fun hF => ?_)
              · refine And.intro trivial ?_
                refine gdYT ?_
                refine Or.inl ?_
                refine And.intro trivial ?_
                refine gdYT ?_
                obtain ⟨q8_28, hq8_28, hF⟩ := bindE hF
                refine Or.inl (And.intro f30_in (callV0 (callI C30 [(25769803776 : Int)] q8_28 [] false C30_holds hq8_28 rfl rfl ?_)))
                refine (And.intro rfl (And.intro (fun h => nomatch h) (And.intro rfl (And.intro rfl (And.intro trivial (And.intro trivial ?_))))))
                refine And.intro trivial ?_
                refine gdYT ?_
                obtain ⟨q8_29, hq8_29, hF⟩ := bindE hF
                refine Or.inl (And.intro f19_in (callV0 (callI C19 ((r6.2.1, r6.2.2.1), (q8_28.2, q8_28.1)) q8_29 [] true C19_holds hq8_29 rfl rfl ?_)))
                refine (And.intro rfl (And.intro rfl (And.intro rfl (And.intro rfl (And.intro (fun _ => rfl) (And.intro rfl (And.intro rfl (And.intro trivial (And.intro trivial ?_)))))))))
                refine condT ?_
                refine condI hF (fun hF => ?_) (fun hF => ?_)
                · refine And.intro trivial ?_
                  refine gdYT ?_
                  obtain ⟨q8_33, hq8_33, hF⟩ := bindE hF
                  refine Or.inl (And.intro f33_in (callV0 (callI C33 r6.2.2.2 q8_33 [(0, some 0), (1, some 14)] false C33_holds hq8_33 rfl rfl ?_)))
                  refine (And.intro (fun h => nomatch h) (And.intro rfl (And.intro rfl (And.intro (And.intro rfl trivial) (And.intro (And.intro rfl (And.intro rfl trivial)) ?_)))))
                  refine gdYT ?_
                  refine condT ?_
                  have hy := someE hF
                  subst hy
                  refine And.intro rfl (Exists.intro [] (Exists.intro [] (Exists.intro [] (Exists.intro [] (Exists.intro [] (And.intro rfl (And.intro rfl (And.intro trivial trivial))))))))
                · refine And.intro trivial ?_
                  refine gdNT ?_
                  refine gdNT ?_
                  refine condF ?_
                  have hy := someE hF
                  subst hy
                  refine And.intro rfl (Exists.intro [] (Exists.intro [] (Exists.intro [] (Exists.intro [] (Exists.intro [] (And.intro rfl (And.intro rfl (And.intro trivial trivial))))))))
              · refine And.intro trivial ?_
                refine gdNT ?_
                refine And.intro trivial ?_
                refine gdNT ?_
                refine And.intro trivial ?_
                refine gdNT ?_
                refine condF ?_
                refine gdNT ?_
                refine And.intro trivial ?_
                refine gdNT ?_
                refine gdNT ?_
                refine condF ?_
                have hy := someE hF
                subst hy
                refine And.intro rfl (Exists.intro [] (Exists.intro [] (Exists.intro [] (Exists.intro [] (Exists.intro [] (And.intro rfl (And.intro rfl (And.intro trivial trivial))))))))
            · refine condF ?_
              refine gdNT ?_
              refine And.intro trivial ?_
              refine gdNT ?_
              refine And.intro trivial ?_
              refine gdNT ?_
              refine And.intro trivial ?_
              refine gdNT ?_
              refine condF ?_
              refine gdNT ?_
              refine And.intro trivial ?_
              refine gdNT ?_
              refine gdNT ?_
              refine condF ?_
              have hy := someE hF
              subst hy
              refine And.intro rfl (Exists.intro [] (Exists.intro [] (Exists.intro [] (Exists.intro [] (Exists.intro [] (And.intro rfl (And.intro rfl (And.intro trivial trivial))))))))
          · refine gdNT ?_
            refine condF ?_
            refine gdNT ?_
            refine condF ?_
            refine gdNT ?_
            refine And.intro trivial ?_
            refine gdNT ?_
            refine And.intro trivial ?_
            refine gdNT ?_
            refine And.intro trivial ?_
            refine gdNT ?_
            refine condF ?_
            refine gdNT ?_
            refine And.intro trivial ?_
            refine gdNT ?_
            refine gdNT ?_
            refine condF ?_
            have hy := someE hF
            subst hy
            refine And.intro rfl (Exists.intro [] (Exists.intro [] (Exists.intro [] (Exists.intro [] (Exists.intro [] (And.intro rfl (And.intro rfl (And.intro trivial trivial))))))))
        · refine gdNT ?_
          refine condF ?_
          refine gdNT ?_
          refine gdNT ?_
          refine condF ?_
          refine gdNT ?_
          refine condF ?_
          refine gdNT ?_
          refine And.intro trivial ?_
          refine gdNT ?_
          refine And.intro trivial ?_
          refine gdNT ?_
          refine And.intro trivial ?_
          refine gdNT ?_
          refine condF ?_
          refine gdNT ?_
          refine And.intro trivial ?_
          refine gdNT ?_
          refine gdNT ?_
          refine condF ?_
          have hy := someE hF
          subst hy
          refine And.intro rfl (Exists.intro [] (Exists.intro [] (Exists.intro [] (Exists.intro [] (Exists.intro [] (And.intro rfl (And.intro rfl (And.intro trivial trivial))))))))
      · refine gdNT ?_
        refine condF ?_
        refine gdNT ?_
        refine gdNT ?_
        refine condF ?_
        refine gdNT ?_
        refine gdNT ?_
        refine condF ?_
        refine gdNT ?_
        refine condF ?_
        refine gdNT ?_
        refine And.intro trivial ?_
        refine gdNT ?_
        refine And.intro trivial ?_
        refine gdNT ?_
        refine And.intro trivial ?_
        refine gdNT ?_
        refine condF ?_
        refine gdNT ?_
        refine And.intro trivial ?_
        refine gdNT ?_
        refine gdNT ?_
        refine condF ?_
        have hy := someE hF
        subst hy
        refine And.intro rfl (Exists.intro [] (Exists.intro [] (Exists.intro [] (Exists.intro [] (Exists.intro [] (And.intro rfl (And.intro rfl (And.intro trivial trivial))))))))
    · refine gdNT ?_
      refine condF ?_
      refine gdNT ?_
      refine gdNT ?_
      refine condF ?_
      refine gdNT ?_
      refine gdNT ?_
      refine condF ?_
      refine gdNT ?_
      refine gdNT ?_
      refine condF ?_
      refine gdNT ?_
      refine condF ?_
      refine gdNT ?_
      refine And.intro trivial ?_
      refine gdNT ?_
      refine And.intro trivial ?_
      refine gdNT ?_
      refine And.intro trivial ?_
      refine gdNT ?_
      refine condF ?_
      refine gdNT ?_
      refine And.intro trivial ?_
      refine gdNT ?_
      refine gdNT ?_
      refine condF ?_
      have hy := someE hF
      subst hy
      refine And.intro rfl (Exists.intro [] (Exists.intro [] (Exists.intro [] (Exists.intro [] (Exists.intro [] (And.intro rfl (And.intro rfl (And.intro trivial trivial))))))))
  · refine gdNT ?_
    refine condF ?_
    refine gdNT ?_
    refine gdNT ?_
    refine condF ?_
    refine gdNT ?_
    refine gdNT ?_
    refine condF ?_
    refine gdNT ?_
    refine gdNT ?_
    refine condF ?_
    refine gdNT ?_
    refine gdNT ?_
    refine condF ?_
    refine gdNT ?_
    refine condF ?_
    refine gdNT ?_
    refine And.intro trivial ?_
    refine gdNT ?_
    refine And.intro trivial ?_
    refine gdNT ?_
    refine And.intro trivial ?_
    refine gdNT ?_
    refine condF ?_
    refine gdNT ?_
    refine And.intro trivial ?_
    refine gdNT ?_
    refine gdNT ?_
    refine condF ?_
    have hy := someE hF
    subst hy
    refine And.intro rfl (Exists.intro [] (Exists.intro [] (Exists.intro [] (Exists.intro [] (Exists.intro [] (And.intro rfl (And.intro rfl (And.intro trivial trivial))))))))
theorem C26_holds : C26.Holds Try.prog 26 := holds_of_vc tab_ok mixed (fn := Try.f26) (by kernel_rfl) rfl C26 (fun x y hF => C26_vc y hF)
theorem f26_in : ∃ fn, Try.prog.funcs[26]? = some fn ∧ fn.body.isSome = true ∧ (fn.name == "runtime.NumGoroutine") = false := ⟨Try.f26, by kernel_rfl, by kernel_rfl, by kernel_rfl⟩
end Go.Proofs
namespace Go.Proofs
open Go.AM
-- carousel/carousellaw10.TapeFull
def f10_j1 (n : Int) : Option (Sum Unit Unit) :=
  bif (decide (n < (0 : Int))) then
    some (Sum.inr ())
  else
    bif (decide (n > (600 : Int))) then
      some (Sum.inr ())
    else
      some (Sum.inl ())
def f10_l2 (n : Int) (go : (Int × (List (Int × Int × Int × Int × (List Int) × (List Int)))) → Option (Sum Unit (List (Int × Int × Int × Int × (List Int) × (List Int))))) (i : Int) (l1 : List (Int × Int × Int × Int × (List Int) × (List Int))) : Option (Sum Unit (List (Int × Int × Int × Int × (List Int) × (List Int)))) :=
  bif (decide (i < n)) then
    bindF (f30 ([i])) fun r9 =>
    bindF (f28 l1 (r9.2, r9.1)) fun r10 =>
    bif (!((r10.2.1 == (0 : Int)) == (decide (i < (512 : Int))))) then
      some (Sum.inl ())
    else
      bif (r10.2.1 != (0 : Int)) then
        bif (r10.2.1 != (2 : Int)) then
          some (Sum.inl ())
        else
          go ((IntKind.i64.wrap (i + (1 : Int))), r10.2.2)
      else
        go ((IntKind.i64.wrap (i + (1 : Int))), r10.2.2)
  else
    some (Sum.inr l1)
def f10_j3 (n : Int) (z8b : List (Int × Int × Int × Int × (List Int) × (List Int))) : Option (Sum (Int × (List (Int × Int × Int × Int × (List Int) × (List Int)))) Unit) :=
  bif (decide (n > (512 : Int))) then
    bindF (f29 z8b (2 : Int) (0 : Int) (0 : Int) (0 : Int)) fun r13 =>
    bif (r13.2.1 != (2 : Int)) then
      some (Sum.inr ())
    else
      some (Sum.inl ((512 : Int), r13.2.2))
  else
    some (Sum.inl (n, z8b))
def f10 (n : Int) : Option Bool :=
  bindF (f26) fun r1 =>
  bif (!r1) then
    some false
  else
    bindF (f10_j1 n) fun z2 =>
    sumF z2 (fun z2a =>
      bindF (f27) fun r3 =>
      bindF (loopF (fun go x => f10_l2 n go x.1 x.2) fuelN ((0 : Int), [])) fun z8 =>
      sumF z8 (fun z8a =>
        some false) (fun z8b =>
        bindF (f10_j3 n z8b) fun z12 =>
        sumF z12 (fun z12a =>
          bindF (f32 z12a.2 (IntKind.i64.wrap (z12a.1 - (1 : Int)))) fun r14 =>
          bindF (f33 r14.2.2.2) fun r15 =>
          bif (r15.1 == z12a.1) then
            bif (z12a.1 == (0 : Int)) then
              some true
            else
              bif r14.1 then
                guardF (0 ≤ (0 : Int) ∧ (0 : Int) < (List.length r14.2.2.1 : Int)) <|
                some ((rd (0 : Int) r14.2.2.1 (0 : Int)) == (IntKind.i64.wrap (z12a.1 - (1 : Int))))
              else
                some false
          else
            some false) (fun z12b =>
          some false))) (fun z2b =>
      some true)
def C10 : Con where
  X := Int
  Y := Bool
  e := 0
  args x := [.dat (.int .i64) x]
  hin x := []
  F x := f10 x
  ret y := [.dat .bool y]
  hout y := []
  nout := 0
theorem C10_vc (n : Int) (y : Bool) (hF : f10 n = some y) : vc Try.prog tab Try.f10.ntmps 0 (match Try.f10.body with | some c => c | none => .skip) (retK tab C10 Try.f10.results.toList y) (C10.shIn n).st := by
  unfold f10 at hF
  refine Or.inl ?_
  refine Or.inl ?_
  refine Or.inl ?_
  obtain ⟨r1, hr1, hF⟩ := bindE hF
  refine Or.inl (And.intro f26_in (callV0 (callI C26 () r1 [] false C26_holds hr1 rfl rfl ?_)))
  refine (And.intro (fun h => nomatch h) (And.intro rfl (And.intro rfl (And.intro trivial (And.intro trivial ?_)))))
  refine condI hF (fun hF => ?_) (fun hF => ?_)
  · refine Or.inl ?_
    have hy := someE hF
    subst hy
    refine And.intro rfl (Exists.intro [] (Exists.intro [] (Exists.intro [] (Exists.intro [] (Exists.intro [] (And.intro rfl (And.intro rfl (And.intro trivial trivial))))))))
  · obtain ⟨z2, hz2, hF⟩ := bindE hF
    refine Or.inr ⟨Sum.elim (fun z2a => [(0, ⟨[(0, .dat (.int .i64) n)], [], 0⟩)]) (fun z2b => [(1, ⟨[(2, .dat .bool true)], [], 0⟩)]) z2, ?_, ?_⟩
    · have hF := hz2
      clear hz2
      unfold f10_j1 at hF
      refine Or.inl ?_
      refine condN hF (fun hF => ?_) (fun hF => ?_)
      · refine gdYF ?_
        refine condF ?_
        refine condI hF (fun hF => ?_) (fun hF => ?_)
        · refine Or.inl ?_
          have hz := someE hF
          subst hz
          refine Exists.intro [] (Exists.intro [] (Exists.intro [] (Exists.intro [] (Exists.intro [] (And.intro rfl (And.intro rfl (And.intro trivial trivial)))))))
        · have hz := someE hF
          subst hz
          refine Exists.intro [] (Exists.intro [] (Exists.intro [] (Exists.intro [] (Exists.intro [] (And.intro rfl (And.intro rfl (And.intro trivial trivial)))))))
      · refine gdNF ?_
        refine condT ?_
        refine condT ?_
        refine Or.inl ?_
        have hz := someE hF
        subst hz
        refine Exists.intro [] (Exists.intro [] (Exists.intro [] (Exists.intro [] (Exists.intro [] (And.intro rfl (And.intro rfl (And.intro trivial trivial)))))))
    · rcases z2 with z2a | z2b
      · dsimp only [sumF] at hF
        refine And.intro ?_ trivial
        refine Or.inl ?_
        obtain ⟨r3, hr3, hF⟩ := bindE hF
        refine Or.inl (And.intro f27_in (callV0 (callI C27 () r3 [] false C27_holds hr3 rfl rfl ?_)))
        refine (And.intro (fun h => nomatch h) (And.intro rfl (And.intro rfl (And.intro trivial (And.intro trivial ?_)))))
        refine Or.inl ?_
        refine Or.inl ?_
        obtain ⟨z8, hz8, hF⟩ := bindE hF
        refine loopI (Int × (List (Int × Int × Int × Int × (List Int) × (List Int)))) (Sum Unit (List (Int × Int × Int × Int × (List Int) × (List Int)))) (fun x => ⟨[(0, .dat (.int .i64) n), (3, .raw false [(.ptr 0 0)]), (4, .dat (.int .i64) x.1)], [(0, .cells [(.osl 1)]), (1, .arr 51 (.p (.int .i64) (.p (.int .i64) (.p (.int .i64) (.p (.int .i64) (.p (.sl (.int .i64)) (.sl (.int .i64))))))) x.2)], 2⟩) (fun z => Sum.elim (fun za => [(1, ⟨[(2, .dat .bool false)], [], 0⟩)]) (fun zb => [(2, ⟨[(0, .dat (.int .i64) n), (3, .raw false [(.ptr 0 0)])], [(0, .cells [(.osl 1)]), (1, .arr 51 (.p (.int .i64) (.p (.int .i64) (.p (.int .i64) (.p (.int .i64) (.p (.sl (.int .i64)) (.sl (.int .i64))))))) zb)], 2⟩)]) z) (loopF (fun go x => f10_l2 n go x.1 x.2)) fuelN ((0 : Int), []) z8 (And.intro hz8 (And.intro (Exists.intro [] (Exists.intro [] (Exists.intro [] (Exists.intro [] (Exists.intro [(0, some 0), (1, some 1)] (And.intro rfl (And.intro rfl (And.intro rfl (And.intro (And.intro rfl trivial) (And.intro rfl (And.intro rfl trivial))))))))))) (And.intro (fun _ _ h => loopZ h) (And.intro (fun m => curI (fun i => fun l1 z hF => ?_)) ?_))))
        · have hF : f10_l2 n (loopF (fun go x => f10_l2 n go x.1 x.2) m) i l1 = some z := hF
          unfold f10_l2 at hF
          refine Or.inl ?_
          refine Or.inl ?_
          refine condI hF (fun hF => ?_) (fun hF => ?_)
          · refine Or.inl ?_
            refine Or.inl ?_
            refine Or.inl ?_
            obtain ⟨r9, hr9, hF⟩ := bindE hF
            refine Or.inl (And.intro f30_in (callV0 (callI C30 [i] r9 [] false C30_holds hr9 rfl rfl ?_)))
            refine (And.intro rfl (And.intro (fun h => nomatch h) (And.intro rfl (And.intro rfl (And.intro trivial (And.intro trivial ?_))))))
            obtain ⟨r10, hr10, hF⟩ := bindE hF
            refine Or.inl (And.intro f28_in (callV0 (callI C28 (l1, (r9.2, r9.1)) r10 [(0, some 0), (1, some 1)] false C28_holds hr10 rfl rfl ?_)))
            refine (And.intro rfl (And.intro rfl (And.intro (fun h => nomatch h) (And.intro rfl (And.intro rfl (And.intro (And.intro rfl trivial) (And.intro (And.intro rfl (And.intro rfl trivial)) ?_)))))))
            refine Or.inl ?_
            refine condN hF (fun hF => ?_) (fun hF => ?_)
            · refine gdYF ?_
              refine gdYF ?_
              refine condI hF (fun hF => ?_) (fun hF => ?_)
              · refine gdYT ?_
                refine gdYF ?_
                refine condT ?_
                refine condF ?_
                refine condI hF (fun hF => ?_) (fun hF => ?_)
                · refine Or.inl ?_
                  have hz := someE hF
                  subst hz
                  refine Exists.intro [] (Exists.intro [] (Exists.intro [] (Exists.intro [] (Exists.intro [] (And.intro rfl (And.intro rfl (And.intro trivial trivial)))))))
                · refine Exists.intro ((IntKind.i64.wrap (i + (1 : Int))), r10.2.2) (And.intro hF (Exists.intro [] (Exists.intro [] (Exists.intro [] (Exists.intro [] (Exists.intro [(0, some 0), (1, some 6)] (And.intro rfl (And.intro rfl (And.intro rfl (And.intro (And.intro rfl trivial) (And.intro rfl (And.intro rfl trivial))))))))))))
              · refine gdNT ?_
                refine gdYF ?_
                refine condF ?_
                refine condF ?_
                refine condF ?_
                refine Exists.intro ((IntKind.i64.wrap (i + (1 : Int))), r10.2.2) (And.intro hF (Exists.intro [] (Exists.intro [] (Exists.intro [] (Exists.intro [] (Exists.intro [(0, some 0), (1, some 6)] (And.intro rfl (And.intro rfl (And.intro rfl (And.intro (And.intro rfl trivial) (And.intro rfl (And.intro rfl trivial))))))))))))
            · refine gdNF ?_
              refine gdNF ?_
              refine gdNF ?_
              refine condT ?_
              refine condT ?_
              refine Or.inl ?_
              have hz := someE hF
              subst hz
              refine Exists.intro [] (Exists.intro [] (Exists.intro [] (Exists.intro [] (Exists.intro [] (And.intro rfl (And.intro rfl (And.intro trivial trivial)))))))
          · have hz := someE hF
            subst hz
            refine Exists.intro [] (Exists.intro [] (Exists.intro [] (Exists.intro [] (Exists.intro [(0, some 0), (1, some 1)] (And.intro rfl (And.intro rfl (And.intro (And.intro rfl trivial) (And.intro rfl (And.intro rfl trivial)))))))))
        · rcases z8 with z8a | z8b
          · dsimp only [sumF] at hF
            refine And.intro ?_ trivial
            have hy := someE hF
            subst hy
            refine And.intro rfl (Exists.intro [] (Exists.intro [] (Exists.intro [] (Exists.intro [] (Exists.intro [] (And.intro rfl (And.intro rfl (And.intro trivial trivial))))))))
          · dsimp only [sumF] at hF
            refine And.intro ?_ trivial
            obtain ⟨z12, hz12, hF⟩ := bindE hF
            refine Or.inr ⟨Sum.elim (fun z12a => [(0, ⟨[(0, .dat (.int .i64) z12a.1), (3, .raw false [(.ptr 0 0)])], [(0, .cells [(.osl 1)]), (1, .arr 51 (.p (.int .i64) (.p (.int .i64) (.p (.int .i64) (.p (.int .i64) (.p (.sl (.int .i64)) (.sl (.int .i64))))))) z12a.2)], 2⟩)]) (fun z12b => [(1, ⟨[(2, .dat .bool false)], [], 0⟩)]) z12, ?_, ?_⟩
            · have hF := hz12
              clear hz12
              unfold f10_j3 at hF
              refine Or.inl ?_
              refine condI hF (fun hF => ?_) (fun hF => ?_)
              · refine Or.inl ?_
                obtain ⟨r13, hr13, hF⟩ := bindE hF
                refine Or.inl (And.intro f29_in (callV0 (callI C29 (z8b, (2 : Int), (0 : Int), (0 : Int), (0 : Int)) r13 [(0, some 0), (1, some 1)] false C29_holds hr13 rfl rfl ?_)))
                refine (And.intro rfl (And.intro rfl (And.intro rfl (And.intro rfl (And.intro (fun h => nomatch h) (And.intro rfl (And.intro rfl (And.intro (And.intro rfl trivial) (And.intro (And.intro rfl (And.intro rfl trivial)) ?_)))))))))
                refine Or.inl ?_
                refine Or.inl ?_
                refine condI hF (fun hF => ?_) (fun hF => ?_)
                · refine Or.inl ?_
                  have hz := someE hF
                  subst hz
                  refine Exists.intro [] (Exists.intro [] (Exists.intro [] (Exists.intro [] (Exists.intro [] (And.intro rfl (And.intro rfl (And.intro trivial trivial)))))))
                · have hz := someE hF
                  subst hz
                  refine Exists.intro [] (Exists.intro [] (Exists.intro [] (Exists.intro [] (Exists.intro [(0, some 0), (1, some 4)] (And.intro rfl (And.intro rfl (And.intro (And.intro rfl trivial) (And.intro rfl (And.intro rfl trivial)))))))))
              · have hz := someE hF
                subst hz
                refine Exists.intro [] (Exists.intro [] (Exists.intro [] (Exists.intro [] (Exists.intro [(0, some 0), (1, some 1)] (And.intro rfl (And.intro rfl (And.intro (And.intro rfl trivial) (And.intro rfl (And.intro rfl trivial)))))))))
            · rcases z12 with z12a | z12b
              · dsimp only [sumF] at hF
                refine And.intro ?_ trivial
                refine Or.inl ?_
                obtain ⟨r14, hr14, hF⟩ := bindE hF
                refine Or.inl (And.intro f32_in (callV0 (callI C32 (z12a.2, (IntKind.i64.wrap (z12a.1 - (1 : Int)))) r14 [(0, some 0), (1, some 1)] false C32_holds hr14 rfl rfl ?_)))
                refine (And.intro rfl (And.intro (fun h => nomatch h) (And.intro rfl (And.intro rfl (And.intro (And.intro rfl trivial) (And.intro (And.intro rfl (And.intro rfl trivial)) ?_))))))
                refine Or.inl ?_
                refine Or.inl ?_
                obtain ⟨r15, hr15, hF⟩ := bindE hF
                refine Or.inl (And.intro f33_in (callV0 (callI C33 r14.2.2.2 r15 [(0, some 0), (1, some 1)] false C33_holds hr15 rfl rfl ?_)))
                refine (And.intro (fun h => nomatch h) (And.intro rfl (And.intro rfl (And.intro (And.intro rfl trivial) (And.intro (And.intro rfl (And.intro rfl trivial)) ?_)))))
                refine condI hF (fun hF => ?_) (fun hF => ?_)
                · refine gdYT ?_
                  refine gdYT ?_
                  refine condN hF (fun hF => ?_) (fun hF => ?_)
                  · refine gdYF ?_
                    refine condI hF (fun hF => ?_) (fun hF => ?_)
                    · refine gdYT ?_
                      refine gdYT ?_
                      refine guardI hF (fun hF => ?_)
                      refine gdYT ?_
                      refine gdYT ?_
                      refine gdYT ?_
                      refine gdYT ?_
                      refine gdYF ?_
                      refine condT ?_
                      refine gdYT ?_
                      refine condF ?_
                      refine condT ?_
                      have hy := someE hF
                      subst hy
                      refine And.intro rfl (Exists.intro [] (Exists.intro [] (Exists.intro [] (Exists.intro [] (Exists.intro [] (And.intro rfl (And.intro rfl (And.intro trivial trivial))))))))
                    · refine gdNT ?_
                      refine gdNT ?_
                      refine gdNT ?_
                      refine gdNT ?_
                      refine gdNT ?_
                      refine gdNT ?_
                      refine gdYF ?_
                      refine condF ?_
                      refine gdYT ?_
                      refine condF ?_
                      refine condT ?_
                      have hy := someE hF
                      subst hy
                      refine And.intro rfl (Exists.intro [] (Exists.intro [] (Exists.intro [] (Exists.intro [] (Exists.intro [] (And.intro rfl (And.intro rfl (And.intro trivial trivial))))))))
                  · refine gdNF ?_
                    refine gdNF ?_
                    refine gdYT ?_
                    refine condT ?_
                    refine condT ?_
                    have hy := someE hF
                    subst hy
                    refine And.intro rfl (Exists.intro [] (Exists.intro [] (Exists.intro [] (Exists.intro [] (Exists.intro [] (And.intro rfl (And.intro rfl (And.intro trivial trivial))))))))
                · refine gdNT ?_
                  refine gdNT ?_
                  refine gdNT ?_
                  refine condF ?_
                  have hy := someE hF
                  subst hy
                  refine And.intro rfl (Exists.intro [] (Exists.intro [] (Exists.intro [] (Exists.intro [] (Exists.intro [] (And.intro rfl (And.intro rfl (And.intro trivial trivial))))))))
              · dsimp only [sumF] at hF
                refine And.intro ?_ trivial
                have hy := someE hF
                subst hy
                refine And.intro rfl (Exists.intro [] (Exists.intro [] (Exists.intro [] (Exists.intro [] (Exists.intro [] (And.intro rfl (And.intro rfl (And.intro trivial trivial))))))))
      · dsimp only [sumF] at hF
        refine And.intro ?_ trivial
        have hy := someE hF
        subst hy
        refine And.intro rfl (Exists.intro [] (Exists.intro [] (Exists.intro [] (Exists.intro [] (Exists.intro [] (And.intro rfl (And.intro rfl (And.intro trivial trivial))))))))
theorem C10_holds : C10.Holds Try.prog 10 := holds_of_vc tab_ok mixed (fn := Try.f10) (by kernel_rfl) rfl C10 (fun x y hF => C10_vc x y hF)
theorem f10_in : ∃ fn, Try.prog.funcs[10]? = some fn ∧ fn.body.isSome = true ∧ (fn.name == "runtime.NumGoroutine") = false := ⟨Try.f10, by kernel_rfl, by kernel_rfl, by kernel_rfl⟩
end Go.Proofs
