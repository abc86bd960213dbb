import Derived.Test.YtlgiakkejlbbfaaGreatBackKnownF6
set_option linter.unusedVariables false
set_option maxRecDepth 100000
set_option maxHeartbeats 8000000
namespace Go.Proofs
open Go.AM
-- carousel/carousellaw11.BackKnown
def f3 : Option Bool :=
  bindF (f12) fun q13_60 =>
  bif (!q13_60) then
    some false
  else
    bindF (f13) fun r1 =>
    bindF (f15 ([(1 : Int), (2 : Int)])) fun r2 =>
    bindF (f14 ([]) (r2.2, r2.1)) fun r3 =>
    bindF (f16 r3.2.2 r3.1) fun r4 =>
    bindF (f16 r4.2.2 (1 : Int)) fun r5 =>
    bindF (f17 r5.2.2 (9 : Int) r3.1 (-1 : Int) (0 : Int)) fun r6 =>
    bindF (f15 ([(7 : Int)])) fun r7 =>
    bindF (f14 r6.2.2 (r7.2, r7.1)) fun r8 =>
    bindF (f16 r8.2.2 r8.1) fun r9 =>
    bindF (f16 r9.2.2 r6.1) fun r10 =>
    bindF (f15 ([(1 : Int)])) fun r11 =>
    bindF (f18 r10.2.2 r6.1 (r11.2, r11.1)) fun r12 =>
    bindF (f18 r12.2.2.2.2.2 r6.1 ([], [(5 : Int)])) fun r13 =>
    bif (r4.1 == (4 : Int)) then
      bif (r5.1 == (1 : Int)) then
        bif (r9.1 == (0 : Int)) then
          bif ((List.length r9.2.1 : Int) == (3 : Int)) then
            guardF (0 ≤ (0 : Int) ∧ (0 : Int) < (List.length r9.2.1 : Int)) <|
            bindF (f15 ([(0 : Int), (0 : Int)])) fun q13_20 =>
            bindF (f19 ((rd (Ty.z (.p (.sl (.int .i64)) (.sl (.int .i64)))) r9.2.1 (0 : Int)).1, (rd (Ty.z (.p (.sl (.int .i64)) (.sl (.int .i64)))) r9.2.1 (0 : Int)).2) (q13_20.2, q13_20.1)) fun q13_21 =>
            bif q13_21 then
              bif (r10.1 == (0 : Int)) then
                bif ((List.length r10.2.1 : Int) == (2 : Int)) then
                  guardF (0 ≤ (0 : Int) ∧ (0 : Int) < (List.length r10.2.1 : Int)) <|
                  bindF (f15 ([(4294967296 : Int), (4294967296 : Int)])) fun q13_37 =>
                  bindF (f19 ((rd (Ty.z (.p (.sl (.int .i64)) (.sl (.int .i64)))) r10.2.1 (0 : Int)).1, (rd (Ty.z (.p (.sl (.int .i64)) (.sl (.int .i64)))) r10.2.1 (0 : Int)).2) (q13_37.2, q13_37.1)) fun q13_38 =>
                  bif q13_38 then
                    bif (r12.1 == (1 : Int)) then
                      bif (r13.1 == (0 : Int)) then
                        bindF (f15 ([(5 : Int), (5 : Int)])) fun q13_51 =>
                        bindF (f19 (r13.2.1, r13.2.2.1) (q13_51.2, q13_51.1)) fun q13_52 =>
                        bif q13_52 then
                          some ((List.length r13.2.2.2.2.1 : Int) == (0 : Int))
                        else
                          some false
                      else
                        some false
                    else
                      some false
                  else
                    some false
                else
                  some false
              else
                some false
            else
              some false
          else
            some false
        else
          some false
      else
        some false
    else
      some false
def C3 : Con where
  X := Unit
  Y := Bool
  e := 0
  args x := []
  hin x := []
  F x := f3
  ret y := [.dat .bool y]
  hout y := []
  nout := 0
theorem C3_vc (y : Bool) (hF : f3 = some y) : vc Tryz.prog tab Tryz.f3.ntmps 0 (match Tryz.f3.body with | some c => c | none => .skip) (retK tab C3 Tryz.f3.results.toList y) (C3.shIn ()).st := by
  unfold f3 at hF
  refine Or.inl ?_
  refine Or.inl ?_
  refine Or.inl ?_
  obtain ⟨q13_60, hq13_60, hF⟩ := bindE hF
  refine Or.inl (And.intro f12_in (callV0 (callI C12 () q13_60 [] false C12_holds hq13_60 rfl rfl ?_)))
  refine (And.intro (fun h => nomatch h) (And.intro rfl (And.intro rfl (And.intro trivial (And.intro trivial ?_)))))
  refine condI hF (fun hF => ?_) (fun hF => ?_)
  · refine Or.inl ?_
    have hy := someE hF
    subst hy
    refine And.intro rfl (Exists.intro [] (Exists.intro [] (Exists.intro [] (Exists.intro [] (Exists.intro [] (And.intro rfl (And.intro rfl (And.intro trivial trivial))))))))
  · refine Or.inl ?_
    obtain ⟨r1, hr1, hF⟩ := bindE hF
    refine Or.inl (And.intro f13_in (callV0 (callI C13 () r1 [] false C13_holds hr1 rfl rfl ?_)))
    refine (And.intro (fun h => nomatch h) (And.intro rfl (And.intro rfl (And.intro trivial (And.intro trivial ?_)))))
    refine Or.inl ?_
    refine Or.inl ?_
    obtain ⟨r2, hr2, hF⟩ := bindE hF
    refine Or.inl (And.intro f15_in (callV0 (callI C15 [(1 : Int), (2 : Int)] r2 [] false C15_holds hr2 rfl rfl ?_)))
    refine (And.intro rfl (And.intro (fun h => nomatch h) (And.intro rfl (And.intro rfl (And.intro trivial (And.intro trivial ?_))))))
    obtain ⟨r3, hr3, hF⟩ := bindE hF
    refine Or.inl (And.intro f14_in (callV0 (callI C14 ([], (r2.2, r2.1)) r3 [(0, some 0), (1, some 1)] false C14_holds hr3 rfl rfl ?_)))
    refine (And.intro rfl (And.intro rfl (And.intro (fun h => nomatch h) (And.intro rfl (And.intro rfl (And.intro (And.intro rfl trivial) (And.intro (And.intro rfl (And.intro rfl trivial)) ?_)))))))
    refine Or.inl ?_
    obtain ⟨r4, hr4, hF⟩ := bindE hF
    refine Or.inl (And.intro f16_in (callV0 (callI C16 (r3.2.2, r3.1) r4 [(0, some 0), (1, some 6)] false C16_holds hr4 rfl rfl ?_)))
    refine (And.intro rfl (And.intro (fun h => nomatch h) (And.intro rfl (And.intro rfl (And.intro (And.intro rfl trivial) (And.intro (And.intro rfl (And.intro rfl trivial)) ?_))))))
    refine Or.inl ?_
    obtain ⟨r5, hr5, hF⟩ := bindE hF
    refine Or.inl (And.intro f16_in (callV0 (callI C16 (r4.2.2, (1 : Int)) r5 [(0, some 0), (1, some 6)] false C16_holds hr5 rfl rfl ?_)))
    refine (And.intro rfl (And.intro (fun h => nomatch h) (And.intro rfl (And.intro rfl (And.intro (And.intro rfl trivial) (And.intro (And.intro rfl (And.intro rfl trivial)) ?_))))))
    refine Or.inl ?_
    obtain ⟨r6, hr6, hF⟩ := bindE hF
    have hr6 : C17.F (r5.2.2, (9 : Int), r3.1, (-1 : Int), (0 : Int)) = some r6 := hr6
    refine Or.inl (And.intro f17_in (callV0 (callI C17 _ r6 [(0, some 0), (1, some 6)] false C17_holds hr6 rfl rfl ?_)))
    refine (And.intro rfl (And.intro rfl (And.intro rfl (And.intro rfl (And.intro (fun h => nomatch h) (And.intro rfl (And.intro rfl (And.intro (And.intro rfl trivial) (And.intro (And.intro rfl (And.intro rfl trivial)) ?_)))))))))
    refine Or.inl ?_
    refine Or.inl ?_
    obtain ⟨r7, hr7, hF⟩ := bindE hF
    refine Or.inl (And.intro f15_in (callV0 (callI C15 [(7 : Int)] r7 [] false C15_holds hr7 rfl rfl ?_)))
    refine (And.intro rfl (And.intro (fun h => nomatch h) (And.intro rfl (And.intro rfl (And.intro trivial (And.intro trivial ?_))))))
    obtain ⟨r8, hr8, hF⟩ := bindE hF
    refine Or.inl (And.intro f14_in (callV0 (callI C14 (r6.2.2, (r7.2, r7.1)) r8 [(0, some 0), (1, some 15)] false C14_holds hr8 rfl rfl ?_)))
    refine (And.intro rfl (And.intro rfl (And.intro (fun h => nomatch h) (And.intro rfl (And.intro rfl (And.intro (And.intro rfl trivial) (And.intro (And.intro rfl (And.intro rfl trivial)) ?_)))))))
    refine Or.inl ?_
    obtain ⟨r9, hr9, hF⟩ := bindE hF
    refine Or.inl (And.intro f16_in (callV0 (callI C16 (r8.2.2, r8.1) r9 [(0, some 0), (1, some 20)] false C16_holds hr9 rfl rfl ?_)))
    refine (And.intro rfl (And.intro (fun h => nomatch h) (And.intro rfl (And.intro rfl (And.intro (And.intro rfl trivial) (And.intro (And.intro rfl (And.intro rfl trivial)) ?_))))))
    refine Or.inl ?_
    obtain ⟨r10, hr10, hF⟩ := bindE hF
    refine Or.inl (And.intro f16_in (callV0 (callI C16 (r9.2.2, r6.1) r10 [(0, some 0), (1, some 20)] false C16_holds hr10 rfl rfl ?_)))
    refine (And.intro rfl (And.intro (fun h => nomatch h) (And.intro rfl (And.intro rfl (And.intro (And.intro rfl trivial) (And.intro (And.intro rfl (And.intro rfl trivial)) ?_))))))
    refine Or.inl ?_
    refine Or.inl ?_
    obtain ⟨r11, hr11, hF⟩ := bindE hF
    refine Or.inl (And.intro f15_in (callV0 (callI C15 [(1 : Int)] r11 [] false C15_holds hr11 rfl rfl ?_)))
    refine (And.intro rfl (And.intro (fun h => nomatch h) (And.intro rfl (And.intro rfl (And.intro trivial (And.intro trivial ?_))))))
    obtain ⟨r12, hr12, hF⟩ := bindE hF
    refine Or.inl (And.intro f18_in (callV0 (callI C18 (r10.2.2, r6.1, (r11.2, r11.1)) r12 [(0, some 0), (1, some 20)] false C18_holds hr12 rfl rfl ?_)))
    refine (And.intro rfl (And.intro rfl (And.intro rfl (And.intro (fun h => nomatch h) (And.intro rfl (And.intro rfl (And.intro (And.intro rfl trivial) (And.intro (And.intro rfl (And.intro rfl trivial)) ?_))))))))
    refine Or.inl ?_
    refine Or.inl ?_
    refine Or.inl ?_
    refine Or.inl ?_
    obtain ⟨r13, hr13, hF⟩ := bindE hF
    refine Or.inl (And.intro f18_in (callV0 (callI C18 (r12.2.2.2.2.2, r6.1, ([], [(5 : Int)])) r13 [(0, some 0), (1, some 20)] false C18_holds hr13 rfl rfl ?_)))
    refine (And.intro rfl (And.intro rfl (And.intro rfl (And.intro (fun h => nomatch h) (And.intro rfl (And.intro rfl (And.intro (And.intro rfl trivial) (And.intro (And.intro rfl (And.intro rfl trivial)) ?_))))))))
    refine Or.inl ?_
    refine Or.inl ?_
    refine Or.inl ?_
    refine Exists.intro (.take 0 (.take 1 (.take 2 (.take 3 (.take 4 (.take 5 (.take 6 (.take 7 (.take 8 (.take 9 (.take 10 (.take 11 (.take 12 (.take 13 (.take 14 (.take 15 (.take 16 (.take 17 (.take 18 (.alt 19 (.alt 20 (.alt 21 (.take 22 (.take 23 (.take 24 (.take 25 (.take 26 (.take 27 (.take 28 (.take 29 (.take 30 (.take 31 (.take 32 (.take 33 (.take 34 (.take 35 (.alt 36 (.alt 37 (.alt 38 (.take 39 (.take 40 (.take 41 (.take 42 (.take 43 (.take 44 (.take 45 (.take 46 (.take 47 (.take 48 (.take 49 (.alt 50 (.alt 51 (.alt 52 (.take 53 (.take 54 (.take 55 (.take 56 (.take 57 (.take 58 (.take 59 (.take 60 .done)))))))) .done) .done) .done)))))))))))) .done) .done) .done))))))))))))))) .done) .done) .done)))))))))))))))))))) (Exists.intro [] (Exists.intro [] (And.intro rfl ?_)))
    refine condI hF (fun hF => ?_) (fun hF => ?_)
    · refine gdYT ?_
      refine condT ?_
      refine condI hF (fun hF => ?_) (fun hF => ?_)
      · refine gdYT ?_
        refine condT ?_
        refine condI hF (fun hF => ?_) (fun hF => ?_)
        · refine gdYT ?_
          refine gdYT ?_
          refine condT ?_
          refine condI hF (fun hF => ?_) (fun hF => ?_)
          · refine gdYT ?_
            refine guardI hF (fun hF => ?_)
            refine gdYT ?_
            refine And.intro trivial ?_
            refine gdYT ?_
            refine Or.inl ?_
            refine And.intro trivial ?_
            refine gdYT ?_
            obtain ⟨q13_20, hq13_20, hF⟩ := bindE hF
            refine Or.inl (And.intro f15_in (callV0 (callI C15 [(0 : Int), (0 : Int)] q13_20 [] false C15_holds hq13_20 rfl rfl ?_)))
            refine (And.intro rfl (And.intro (fun h => nomatch h) (And.intro rfl (And.intro rfl (And.intro trivial (And.intro trivial ?_))))))
            refine And.intro trivial ?_
            refine gdYT ?_
            obtain ⟨q13_21, hq13_21, hF⟩ := bindE hF
            refine Or.inl (And.intro f19_in (callV0 (callI C19 (((rd (Ty.z (.p (.sl (.int .i64)) (.sl (.int .i64)))) r9.2.1 (0 : Int)).1, (rd (Ty.z (.p (.sl (.int .i64)) (.sl (.int .i64)))) r9.2.1 (0 : Int)).2), (q13_20.2, q13_20.1)) q13_21 [] true C19_holds hq13_21 rfl rfl ?_)))
            refine (And.intro rfl (And.intro rfl (And.intro rfl (And.intro rfl (And.intro (fun _ => rfl) (And.intro rfl (And.intro rfl (And.intro trivial (And.intro trivial ?_)))))))))
            refine condT ?_
            refine condI hF (fun hF => ?_) (fun hF => ?_)
            · refine gdYT ?_
              refine condT ?_
              refine condI hF (fun hF => ?_) (fun hF => ?_)
              · refine gdYT ?_
                refine gdYT ?_
                refine condT ?_
                refine condI hF (fun hF => ?_) (fun hF => ?_)
                · refine gdYT ?_
                  refine guardI hF (fun hF => ?_)
                  refine gdYT ?_
                  refine And.intro trivial ?_
                  refine gdYT ?_
                  refine Or.inl ?_
                  refine And.intro trivial ?_
                  refine gdYT ?_
                  obtain ⟨q13_37, hq13_37, hF⟩ := bindE hF
                  refine Or.inl (And.intro f15_in (callV0 (callI C15 [(4294967296 : Int), (4294967296 : Int)] q13_37 [] false C15_holds hq13_37 rfl rfl ?_)))
                  refine (And.intro rfl (And.intro (fun h => nomatch h) (And.intro rfl (And.intro rfl (And.intro trivial (And.intro trivial ?_))))))
                  refine And.intro trivial ?_
                  refine gdYT ?_
                  obtain ⟨q13_38, hq13_38, hF⟩ := bindE hF
                  refine Or.inl (And.intro f19_in (callV0 (callI C19 (((rd (Ty.z (.p (.sl (.int .i64)) (.sl (.int .i64)))) r10.2.1 (0 : Int)).1, (rd (Ty.z (.p (.sl (.int .i64)) (.sl (.int .i64)))) r10.2.1 (0 : Int)).2), (q13_37.2, q13_37.1)) q13_38 [] true C19_holds hq13_38 rfl rfl ?_)))
                  refine (And.intro rfl (And.intro rfl (And.intro rfl (And.intro rfl (And.intro (fun _ => rfl) (And.intro rfl (And.intro rfl (And.intro trivial (And.intro trivial ?_)))))))))
                  refine condT ?_
                  refine condI hF (fun hF => ?_) (fun hF => ?_)
                  · refine gdYT ?_
                    refine condT ?_
                    refine condI hF (fun hF => ?_) (fun hF => ?_)
                    · refine gdYT ?_
                      refine condT ?_
                      refine condI hF (fun hF => ?_) (fun hF => ?_)
                      · refine And.intro trivial ?_
                        refine gdYT ?_
                        refine Or.inl ?_
                        refine And.intro trivial ?_
                        refine gdYT ?_
                        obtain ⟨q13_51, hq13_51, hF⟩ := bindE hF
                        refine Or.inl (And.intro f15_in (callV0 (callI C15 [(5 : Int), (5 : Int)] q13_51 [] false C15_holds hq13_51 rfl rfl ?_)))
                        refine (And.intro rfl (And.intro (fun h => nomatch h) (And.intro rfl (And.intro rfl (And.intro trivial (And.intro trivial ?_))))))
                        refine And.intro trivial ?_
                        refine gdYT ?_
                        obtain ⟨q13_52, hq13_52, hF⟩ := bindE hF
                        refine Or.inl (And.intro f19_in (callV0 (callI C19 ((r13.2.1, r13.2.2.1), (q13_51.2, q13_51.1)) q13_52 [] true C19_holds hq13_52 rfl rfl ?_)))
                        refine (And.intro rfl (And.intro rfl (And.intro rfl (And.intro rfl (And.intro (fun _ => rfl) (And.intro rfl (And.intro rfl (And.intro trivial (And.intro trivial ?_)))))))))
                        refine condT ?_
                        refine condI hF (fun hF => ?_) (fun hF => ?_)
                        · refine gdYT ?_
                          refine gdYT ?_
                          refine gdYT ?_
                          refine condT ?_
                          have hy := someE hF
                          subst hy
                          refine And.intro rfl (Exists.intro [] (Exists.intro [] (Exists.intro [] (Exists.intro [] (Exists.intro [] (And.intro rfl (And.intro rfl (And.intro trivial trivial))))))))
                        · refine gdNT ?_
                          refine gdNT ?_
                          refine gdNT ?_
                          refine condF ?_
                          have hy := someE hF
                          subst hy
                          refine And.intro rfl (Exists.intro [] (Exists.intro [] (Exists.intro [] (Exists.intro [] (Exists.intro [] (And.intro rfl (And.intro rfl (And.intro trivial trivial))))))))
                      · refine And.intro trivial ?_
                        refine gdNT ?_
                        refine And.intro trivial ?_
                        refine gdNT ?_
                        refine And.intro trivial ?_
                        refine gdNT ?_
                        refine condF ?_
                        refine gdNT ?_
                        refine gdNT ?_
                        refine gdNT ?_
                        refine gdNT ?_
                        refine condF ?_
                        have hy := someE hF
                        subst hy
                        refine And.intro rfl (Exists.intro [] (Exists.intro [] (Exists.intro [] (Exists.intro [] (Exists.intro [] (And.intro rfl (And.intro rfl (And.intro trivial trivial))))))))
                    · refine gdNT ?_
                      refine condF ?_
                      refine gdNT ?_
                      refine And.intro trivial ?_
                      refine gdNT ?_
                      refine And.intro trivial ?_
                      refine gdNT ?_
                      refine And.intro trivial ?_
                      refine gdNT ?_
                      refine condF ?_
                      refine gdNT ?_
                      refine gdNT ?_
                      refine gdNT ?_
                      refine gdNT ?_
                      refine condF ?_
                      have hy := someE hF
                      subst hy
                      refine And.intro rfl (Exists.intro [] (Exists.intro [] (Exists.intro [] (Exists.intro [] (Exists.intro [] (And.intro rfl (And.intro rfl (And.intro trivial trivial))))))))
                  · refine gdNT ?_
                    refine condF ?_
                    refine gdNT ?_
                    refine gdNT ?_
                    refine condF ?_
                    refine gdNT ?_
                    refine And.intro trivial ?_
                    refine gdNT ?_
                    refine And.intro trivial ?_
                    refine gdNT ?_
                    refine And.intro trivial ?_
                    refine gdNT ?_
                    refine condF ?_
                    refine gdNT ?_
                    refine gdNT ?_
                    refine gdNT ?_
                    refine gdNT ?_
                    refine condF ?_
                    have hy := someE hF
                    subst hy
                    refine And.intro rfl (Exists.intro [] (Exists.intro [] (Exists.intro [] (Exists.intro [] (Exists.intro [] (And.intro rfl (And.intro rfl (And.intro trivial trivial))))))))
                · refine gdNT ?_
                  refine gdNT ?_
                  refine And.intro trivial ?_
                  refine gdNT ?_
                  refine And.intro trivial ?_
                  refine gdNT ?_
                  refine And.intro trivial ?_
                  refine gdNT ?_
                  refine condF ?_
                  refine gdNT ?_
                  refine gdNT ?_
                  refine condF ?_
                  refine gdNT ?_
                  refine gdNT ?_
                  refine condF ?_
                  refine gdNT ?_
                  refine And.intro trivial ?_
                  refine gdNT ?_
                  refine And.intro trivial ?_
                  refine gdNT ?_
                  refine And.intro trivial ?_
                  refine gdNT ?_
                  refine condF ?_
                  refine gdNT ?_
                  refine gdNT ?_
                  refine gdNT ?_
                  refine gdNT ?_
                  refine condF ?_
                  have hy := someE hF
                  subst hy
                  refine And.intro rfl (Exists.intro [] (Exists.intro [] (Exists.intro [] (Exists.intro [] (Exists.intro [] (And.intro rfl (And.intro rfl (And.intro trivial trivial))))))))
              · refine gdNT ?_
                refine gdNT ?_
                refine condF ?_
                refine gdNT ?_
                refine gdNT ?_
                refine gdNT ?_
                refine And.intro trivial ?_
                refine gdNT ?_
                refine And.intro trivial ?_
                refine gdNT ?_
                refine And.intro trivial ?_
                refine gdNT ?_
                refine condF ?_
                refine gdNT ?_
                refine gdNT ?_
                refine condF ?_
                refine gdNT ?_
                refine gdNT ?_
                refine condF ?_
                refine gdNT ?_
                refine And.intro trivial ?_
                refine gdNT ?_
                refine And.intro trivial ?_
                refine gdNT ?_
                refine And.intro trivial ?_
                refine gdNT ?_
                refine condF ?_
                refine gdNT ?_
                refine gdNT ?_
                refine gdNT ?_
                refine gdNT ?_
                refine condF ?_
                have hy := someE hF
                subst hy
                refine And.intro rfl (Exists.intro [] (Exists.intro [] (Exists.intro [] (Exists.intro [] (Exists.intro [] (And.intro rfl (And.intro rfl (And.intro trivial trivial))))))))
            · refine gdNT ?_
              refine condF ?_
              refine gdNT ?_
              refine gdNT ?_
              refine gdNT ?_
              refine condF ?_
              refine gdNT ?_
              refine gdNT ?_
              refine gdNT ?_
              refine And.intro trivial ?_
              refine gdNT ?_
              refine And.intro trivial ?_
              refine gdNT ?_
              refine And.intro trivial ?_
              refine gdNT ?_
              refine condF ?_
              refine gdNT ?_
              refine gdNT ?_
              refine condF ?_
              refine gdNT ?_
              refine gdNT ?_
              refine condF ?_
              refine gdNT ?_
              refine And.intro trivial ?_
              refine gdNT ?_
              refine And.intro trivial ?_
              refine gdNT ?_
              refine And.intro trivial ?_
              refine gdNT ?_
              refine condF ?_
              refine gdNT ?_
              refine gdNT ?_
              refine gdNT ?_
              refine gdNT ?_
              refine condF ?_
              have hy := someE hF
              subst hy
              refine And.intro rfl (Exists.intro [] (Exists.intro [] (Exists.intro [] (Exists.intro [] (Exists.intro [] (And.intro rfl (And.intro rfl (And.intro trivial trivial))))))))
          · refine gdNT ?_
            refine gdNT ?_
            refine And.intro trivial ?_
            refine gdNT ?_
            refine And.intro trivial ?_
            refine gdNT ?_
            refine And.intro trivial ?_
            refine gdNT ?_
            refine condF ?_
            refine gdNT ?_
            refine gdNT ?_
            refine condF ?_
            refine gdNT ?_
            refine gdNT ?_
            refine gdNT ?_
            refine condF ?_
            refine gdNT ?_
            refine gdNT ?_
            refine gdNT ?_
            refine And.intro trivial ?_
            refine gdNT ?_
            refine And.intro trivial ?_
            refine gdNT ?_
            refine And.intro trivial ?_
            refine gdNT ?_
            refine condF ?_
            refine gdNT ?_
            refine gdNT ?_
            refine condF ?_
            refine gdNT ?_
            refine gdNT ?_
            refine condF ?_
            refine gdNT ?_
            refine And.intro trivial ?_
            refine gdNT ?_
            refine And.intro trivial ?_
            refine gdNT ?_
            refine And.intro trivial ?_
            refine gdNT ?_
            refine condF ?_
            refine gdNT ?_
            refine gdNT ?_
            refine gdNT ?_
            refine gdNT ?_
            refine condF ?_
            have hy := someE hF
            subst hy
            refine And.intro rfl (Exists.intro [] (Exists.intro [] (Exists.intro [] (Exists.intro [] (Exists.intro [] (And.intro rfl (And.intro rfl (And.intro trivial trivial))))))))
        · refine gdNT ?_
          refine gdNT ?_
          refine condF ?_
          refine gdNT ?_
          refine gdNT ?_
          refine gdNT ?_
          refine And.intro trivial ?_
          refine gdNT ?_
          refine And.intro trivial ?_
          refine gdNT ?_
          refine And.intro trivial ?_
          refine gdNT ?_
          refine condF ?_
          refine gdNT ?_
          refine gdNT ?_
          refine condF ?_
          refine gdNT ?_
          refine gdNT ?_
          refine gdNT ?_
          refine condF ?_
          refine gdNT ?_
          refine gdNT ?_
          refine gdNT ?_
          refine And.intro trivial ?_
          refine gdNT ?_
          refine And.intro trivial ?_
          refine gdNT ?_
          refine And.intro trivial ?_
          refine gdNT ?_
          refine condF ?_
          refine gdNT ?_
          refine gdNT ?_
          refine condF ?_
          refine gdNT ?_
          refine gdNT ?_
          refine condF ?_
          refine gdNT ?_
          refine And.intro trivial ?_
          refine gdNT ?_
          refine And.intro trivial ?_
          refine gdNT ?_
          refine And.intro trivial ?_
          refine gdNT ?_
          refine condF ?_
          refine gdNT ?_
          refine gdNT ?_
          refine gdNT ?_
          refine gdNT ?_
          refine condF ?_
          have hy := someE hF
          subst hy
          refine And.intro rfl (Exists.intro [] (Exists.intro [] (Exists.intro [] (Exists.intro [] (Exists.intro [] (And.intro rfl (And.intro rfl (And.intro trivial trivial))))))))
      · refine gdNT ?_
        refine condF ?_
        refine gdNT ?_
        refine gdNT ?_
        refine gdNT ?_
        refine condF ?_
        refine gdNT ?_
        refine gdNT ?_
        refine gdNT ?_
        refine And.intro trivial ?_
        refine gdNT ?_
        refine And.intro trivial ?_
        refine gdNT ?_
        refine And.intro trivial ?_
        refine gdNT ?_
        refine condF ?_
        refine gdNT ?_
        refine gdNT ?_
        refine condF ?_
        refine gdNT ?_
        refine gdNT ?_
        refine gdNT ?_
        refine condF ?_
        refine gdNT ?_
        refine gdNT ?_
        refine gdNT ?_
        refine And.intro trivial ?_
        refine gdNT ?_
        refine And.intro trivial ?_
        refine gdNT ?_
        refine And.intro trivial ?_
        refine gdNT ?_
        refine condF ?_
        refine gdNT ?_
        refine gdNT ?_
        refine condF ?_
        refine gdNT ?_
        refine gdNT ?_
        refine condF ?_
        refine gdNT ?_
        refine And.intro trivial ?_
        refine gdNT ?_
        refine And.intro trivial ?_
        refine gdNT ?_
        refine And.intro trivial ?_
        refine gdNT ?_
        refine condF ?_
        refine gdNT ?_
        refine gdNT ?_
        refine gdNT ?_
        refine gdNT ?_
        refine condF ?_
        have hy := someE hF
        subst hy
        refine And.intro rfl (Exists.intro [] (Exists.intro [] (Exists.intro [] (Exists.intro [] (Exists.intro [] (And.intro rfl (And.intro rfl (And.intro trivial trivial))))))))
    · refine gdNT ?_
      refine condF ?_
      refine gdNT ?_
      refine gdNT ?_
      refine condF ?_
      refine gdNT ?_
      refine gdNT ?_
      refine gdNT ?_
      refine condF ?_
      refine gdNT ?_
      refine gdNT ?_
      refine gdNT ?_
      refine And.intro trivial ?_
      refine gdNT ?_
      refine And.intro trivial ?_
      refine gdNT ?_
      refine And.intro trivial ?_
      refine gdNT ?_
      refine condF ?_
      refine gdNT ?_
      refine gdNT ?_
      refine condF ?_
      refine gdNT ?_
      refine gdNT ?_
      refine gdNT ?_
      refine condF ?_
      refine gdNT ?_
      refine gdNT ?_
      refine gdNT ?_
      refine And.intro trivial ?_
      refine gdNT ?_
      refine And.intro trivial ?_
      refine gdNT ?_
      refine And.intro trivial ?_
      refine gdNT ?_
      refine condF ?_
      refine gdNT ?_
      refine gdNT ?_
      refine condF ?_
      refine gdNT ?_
      refine gdNT ?_
      refine condF ?_
      refine gdNT ?_
      refine And.intro trivial ?_
      refine gdNT ?_
      refine And.intro trivial ?_
      refine gdNT ?_
      refine And.intro trivial ?_
      refine gdNT ?_
      refine condF ?_
      refine gdNT ?_
      refine gdNT ?_
      refine gdNT ?_
      refine gdNT ?_
      refine condF ?_
      have hy := someE hF
      subst hy
      refine And.intro rfl (Exists.intro [] (Exists.intro [] (Exists.intro [] (Exists.intro [] (Exists.intro [] (And.intro rfl (And.intro rfl (And.intro trivial trivial))))))))
theorem C3_holds : C3.Holds Tryz.prog 3 := holds_of_vc tab_ok mixed (fn := Tryz.f3) (by kernel_rfl) rfl C3 (fun x y hF => C3_vc y hF)
theorem f3_in : ∃ fn, Tryz.prog.funcs[3]? = some fn ∧ fn.body.isSome = true ∧ (fn.name == "runtime.NumGoroutine") = false := ⟨Tryz.f3, by kernel_rfl, by kernel_rfl, by kernel_rfl⟩
end Go.Proofs
