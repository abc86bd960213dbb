import Derived.Test.YtmkekohdmdjdlaaTapeKnownF4
set_option linter.unusedVariables false
set_option maxRecDepth 100000
set_option maxHeartbeats 8000000
namespace Go.Proofs
open Go.AM
-- carousel/carousellaw10.TapeKnown
def f9 : Option Bool :=
  bindF (f26) fun r1 =>
  bif (!r1) then
    some false
  else
    bindF (f27) fun r2 =>
    bindF (f28 ([]) ([(2 : Int)], [])) fun r3 =>
    bindF (f29 r3.2.2 (2 : Int) (0 : Int) (0 : Int) (0 : Int)) fun r4 =>
    bindF (f30 ([(1 : Int), (2 : Int)])) fun r5 =>
    bindF (f28 r4.2.2 (r5.2, r5.1)) fun r6 =>
    bindF (f29 r6.2.2 (1 : Int) (0 : Int) (0 : Int) (0 : Int)) fun r7 =>
    bindF (f29 r7.2.2 (15 : Int) (0 : Int) (0 : Int) (0 : Int)) fun r8 =>
    bindF (f29 r8.2.2 (2 : Int) (0 : Int) (1 : Int) (0 : Int)) fun r9 =>
    bindF (f29 r9.2.2 (5 : Int) (0 : Int) (77 : Int) (4294967296 : Int)) fun r10 =>
    bindF (f31 r10.2.2 r10.1) fun r11 =>
    bindF (f29 r11.2.2.2.2.2.2.2 (8 : Int) (0 : Int) (0 : Int) (1 : Int)) fun r12 =>
    bindF (f29 r12.2.2 (7 : Int) (0 : Int) (0 : Int) (0 : Int)) fun r13 =>
    bindF (f29 r13.2.2 (9 : Int) (0 : Int) (0 : Int) (5 : Int)) fun r14 =>
    bindF (f31 r14.2.2 r14.1) fun r15 =>
    bindF (f31 r15.2.2.2.2.2.2.2 (9 : Int)) fun r16 =>
    bindF (f32 r16.2.2.2.2.2.2.2 (-1 : Int)) fun r17 =>
    bif (r3.2.1 == (1 : Int)) then
      bif (r4.2.1 == (1 : Int)) then
        bif (r7.2.1 == (1 : Int)) then
          bif (r8.2.1 == (1 : Int)) then
            bif (r9.2.1 == (1 : Int)) then
              bif (r10.2.1 == (0 : Int)) then
                bif r11.2.2.2.2.1 then
                  bif (r11.2.2.1 == (-1 : Int)) then
                    bif (r11.2.1 == (0 : Int)) then
                      bif (r11.2.2.2.1 == (4294967296 : Int)) then
                        bif (r12.2.1 == (1 : Int)) then
                          bif (r13.2.1 == (4 : Int)) then
                            bif (r14.2.1 == (0 : Int)) then
                              bif (r15.2.2.2.1 == (0 : Int)) then
                                bif ((List.length r15.2.2.2.2.2.1 : Int) == (0 : Int)) then
                                  bif ((List.length r15.2.2.2.2.2.2.1 : Int) == (1 : Int)) then
                                    guardF (0 ≤ (0 : Int) ∧ (0 : Int) < (List.length r15.2.2.2.2.2.2.1 : Int)) <|
                                    bif ((rd (0 : Int) r15.2.2.2.2.2.2.1 (0 : Int)) == (3 : Int)) then
                                      bif (!r16.2.2.2.2.1) then
                                        some (!r17.1)
                                      else
                                        some false
                                    else
                                      some false
                                  else
                                    some false
                                else
                                  some false
                              else
                                some false
                            else
                              some false
                          else
                            some false
                        else
                          some false
                      else
                        some false
                    else
                      some false
                  else
                    some false
                else
                  some false
              else
                some false
            else
              some false
          else
            some false
        else
          some false
      else
        some false
    else
      some false
def C9 : Con where
  X := Unit
  Y := Bool
  e := 0
  args x := []
  hin x := []
  F x := f9
  ret y := [.dat .bool y]
  hout y := []
  nout := 0
theorem C9_vc (y : Bool) (hF : f9 = some y) : vc Try.prog tab Try.f9.ntmps 0 (match Try.f9.body with | some c => c | none => .skip) (retK tab C9 Try.f9.results.toList y) (C9.shIn ()).st := by
  unfold f9 at hF
  refine Or.inl ?_
  refine Or.inl ?_
  refine Or.inl ?_
  obtain ⟨r1, hr1, hF⟩ := bindE hF
  refine Or.inl (And.intro f26_in (callI C26 () r1 [] false C26_holds hr1 rfl rfl ?_))
  refine (And.intro (fun h => nomatch h) (And.intro rfl (And.intro rfl (And.intro trivial (And.intro trivial ?_)))))
  refine condI hF (fun hF => ?_) (fun hF => ?_)
  · refine Or.inl ?_
    have hy := someE hF
    subst hy
    refine And.intro rfl (Exists.intro [] (Exists.intro [] (And.intro rfl (And.intro rfl (And.intro trivial trivial)))))
  · refine Or.inl ?_
    obtain ⟨r2, hr2, hF⟩ := bindE hF
    refine Or.inl (And.intro f27_in (callI C27 () r2 [] false C27_holds hr2 rfl rfl ?_))
    refine (And.intro (fun h => nomatch h) (And.intro rfl (And.intro rfl (And.intro trivial (And.intro trivial ?_)))))
    refine Or.inl ?_
    obtain ⟨r3, hr3, hF⟩ := bindE hF
    refine Or.inl (And.intro f28_in (callI C28 ([], ([(2 : Int)], [])) r3 [(0, some 0), (1, some 1)] false C28_holds hr3 rfl rfl ?_))
    refine (And.intro rfl (And.intro rfl (And.intro (fun h => nomatch h) (And.intro rfl (And.intro rfl (And.intro (And.intro rfl trivial) (And.intro (And.intro rfl (And.intro rfl trivial)) ?_)))))))
    refine Or.inl ?_
    obtain ⟨r4, hr4, hF⟩ := bindE hF
    refine Or.inl (And.intro f29_in (callI C29 (r3.2.2, (2 : Int), (0 : Int), (0 : Int), (0 : Int)) r4 [(0, some 0), (1, some 5)] false C29_holds hr4 rfl rfl ?_))
    refine (And.intro rfl (And.intro rfl (And.intro rfl (And.intro rfl (And.intro (fun h => nomatch h) (And.intro rfl (And.intro rfl (And.intro (And.intro rfl trivial) (And.intro (And.intro rfl (And.intro rfl trivial)) ?_)))))))))
    refine Or.inl ?_
    obtain ⟨r5, hr5, hF⟩ := bindE hF
    refine Or.inl (And.intro f30_in (callI C30 [(1 : Int), (2 : Int)] r5 [] false C30_holds hr5 rfl rfl ?_))
    refine (And.intro rfl (And.intro (fun h => nomatch h) (And.intro rfl (And.intro rfl (And.intro trivial (And.intro trivial ?_))))))
    obtain ⟨r6, hr6, hF⟩ := bindE hF
    refine Or.inl (And.intro f28_in (callI C28 (r4.2.2, (r5.2, r5.1)) r6 [(0, some 0), (1, some 8)] false C28_holds hr6 rfl rfl ?_))
    refine (And.intro rfl (And.intro rfl (And.intro (fun h => nomatch h) (And.intro rfl (And.intro rfl (And.intro (And.intro rfl trivial) (And.intro (And.intro rfl (And.intro rfl trivial)) ?_)))))))
    refine Or.inl ?_
    obtain ⟨r7, hr7, hF⟩ := bindE hF
    refine Or.inl (And.intro f29_in (callI C29 (r6.2.2, (1 : Int), (0 : Int), (0 : Int), (0 : Int)) r7 [(0, some 0), (1, some 13)] false C29_holds hr7 rfl rfl ?_))
    refine (And.intro rfl (And.intro rfl (And.intro rfl (And.intro rfl (And.intro (fun h => nomatch h) (And.intro rfl (And.intro rfl (And.intro (And.intro rfl trivial) (And.intro (And.intro rfl (And.intro rfl trivial)) ?_)))))))))
    refine Or.inl ?_
    obtain ⟨r8, hr8, hF⟩ := bindE hF
    refine Or.inl (And.intro f29_in (callI C29 (r7.2.2, (15 : Int), (0 : Int), (0 : Int), (0 : Int)) r8 [(0, some 0), (1, some 16)] false C29_holds hr8 rfl rfl ?_))
    refine (And.intro rfl (And.intro rfl (And.intro rfl (And.intro rfl (And.intro (fun h => nomatch h) (And.intro rfl (And.intro rfl (And.intro (And.intro rfl trivial) (And.intro (And.intro rfl (And.intro rfl trivial)) ?_)))))))))
    refine Or.inl ?_
    obtain ⟨r9, hr9, hF⟩ := bindE hF
    refine Or.inl (And.intro f29_in (callI C29 (r8.2.2, (2 : Int), (0 : Int), (1 : Int), (0 : Int)) r9 [(0, some 0), (1, some 19)] false C29_holds hr9 rfl rfl ?_))
    refine (And.intro rfl (And.intro rfl (And.intro rfl (And.intro rfl (And.intro (fun h => nomatch h) (And.intro rfl (And.intro rfl (And.intro (And.intro rfl trivial) (And.intro (And.intro rfl (And.intro rfl trivial)) ?_)))))))))
    refine Or.inl ?_
    obtain ⟨r10, hr10, hF⟩ := bindE hF
    refine Or.inl (And.intro f29_in (callI C29 (r9.2.2, (5 : Int), (0 : Int), (77 : Int), (4294967296 : Int)) r10 [(0, some 0), (1, some 22)] false C29_holds hr10 rfl rfl ?_))
    refine (And.intro rfl (And.intro rfl (And.intro rfl (And.intro rfl (And.intro (fun h => nomatch h) (And.intro rfl (And.intro rfl (And.intro (And.intro rfl trivial) (And.intro (And.intro rfl (And.intro rfl trivial)) ?_)))))))))
    refine Or.inl ?_
    obtain ⟨r11, hr11, hF⟩ := bindE hF
    refine Or.inl (And.intro f31_in (callI C31 (r10.2.2, r10.1) r11 [(0, some 0), (1, some 25)] false C31_holds hr11 rfl rfl ?_))
    refine (And.intro rfl (And.intro (fun h => nomatch h) (And.intro rfl (And.intro rfl (And.intro (And.intro rfl trivial) (And.intro (And.intro rfl (And.intro rfl trivial)) ?_))))))
    refine Or.inl ?_
    obtain ⟨r12, hr12, hF⟩ := bindE hF
    refine Or.inl (And.intro f29_in (callI C29 (r11.2.2.2.2.2.2.2, (8 : Int), (0 : Int), (0 : Int), (1 : Int)) r12 [(0, some 0), (1, some 25)] false C29_holds hr12 rfl rfl ?_))
    refine (And.intro rfl (And.intro rfl (And.intro rfl (And.intro rfl (And.intro (fun h => nomatch h) (And.intro rfl (And.intro rfl (And.intro (And.intro rfl trivial) (And.intro (And.intro rfl (And.intro rfl trivial)) ?_)))))))))
    refine Or.inl ?_
    obtain ⟨r13, hr13, hF⟩ := bindE hF
    refine Or.inl (And.intro f29_in (callI C29 (r12.2.2, (7 : Int), (0 : Int), (0 : Int), (0 : Int)) r13 [(0, some 0), (1, some 33)] false C29_holds hr13 rfl rfl ?_))
    refine (And.intro rfl (And.intro rfl (And.intro rfl (And.intro rfl (And.intro (fun h => nomatch h) (And.intro rfl (And.intro rfl (And.intro (And.intro rfl trivial) (And.intro (And.intro rfl (And.intro rfl trivial)) ?_)))))))))
    refine Or.inl ?_
    obtain ⟨r14, hr14, hF⟩ := bindE hF
    refine Or.inl (And.intro f29_in (callI C29 (r13.2.2, (9 : Int), (0 : Int), (0 : Int), (5 : Int)) r14 [(0, some 0), (1, some 36)] false C29_holds hr14 rfl rfl ?_))
    refine (And.intro rfl (And.intro rfl (And.intro rfl (And.intro rfl (And.intro (fun h => nomatch h) (And.intro rfl (And.intro rfl (And.intro (And.intro rfl trivial) (And.intro (And.intro rfl (And.intro rfl trivial)) ?_)))))))))
    refine Or.inl ?_
    obtain ⟨r15, hr15, hF⟩ := bindE hF
    refine Or.inl (And.intro f31_in (callI C31 (r14.2.2, r14.1) r15 [(0, some 0), (1, some 39)] false C31_holds hr15 rfl rfl ?_))
    refine (And.intro rfl (And.intro (fun h => nomatch h) (And.intro rfl (And.intro rfl (And.intro (And.intro rfl trivial) (And.intro (And.intro rfl (And.intro rfl trivial)) ?_))))))
    refine Or.inl ?_
    obtain ⟨r16, hr16, hF⟩ := bindE hF
    refine Or.inl (And.intro f31_in (callI C31 (r15.2.2.2.2.2.2.2, (9 : Int)) r16 [(0, some 0), (1, some 39)] false C31_holds hr16 rfl rfl ?_))
    refine (And.intro rfl (And.intro (fun h => nomatch h) (And.intro rfl (And.intro rfl (And.intro (And.intro rfl trivial) (And.intro (And.intro rfl (And.intro rfl trivial)) ?_))))))
    refine Or.inl ?_
    obtain ⟨r17, hr17, hF⟩ := bindE hF
    have hr17 : C32.F (r16.2.2.2.2.2.2.2, (-1 : Int)) = some r17 := hr17
    refine Or.inl (And.intro f32_in (callI C32 _ r17 [(0, some 0), (1, some 39)] false C32_holds hr17 rfl rfl ?_))
    refine (And.intro rfl (And.intro (fun h => nomatch h) (And.intro rfl (And.intro rfl (And.intro (And.intro rfl trivial) (And.intro (And.intro rfl (And.intro rfl trivial)) ?_))))))
    refine Or.inl ?_
    refine condI hF (fun hF => ?_) (fun hF => ?_)
    · refine gdYT ?_
      refine condT ?_
      refine condI hF (fun hF => ?_) (fun hF => ?_)
      · refine gdYT ?_
        refine condT ?_
        refine condI hF (fun hF => ?_) (fun hF => ?_)
        · refine gdYT ?_
          refine condT ?_
          refine condI hF (fun hF => ?_) (fun hF => ?_)
          · refine gdYT ?_
            refine condT ?_
            refine condI hF (fun hF => ?_) (fun hF => ?_)
            · refine gdYT ?_
              refine condT ?_
              refine condI hF (fun hF => ?_) (fun hF => ?_)
              · refine condT ?_
                refine condI hF (fun hF => ?_) (fun hF => ?_)
                · refine gdYT ?_
                  refine gdYT ?_
                  refine condT ?_
                  refine condI hF (fun hF => ?_) (fun hF => ?_)
                  · refine gdYT ?_
                    refine gdYT ?_
                    refine condT ?_
                    refine condI hF (fun hF => ?_) (fun hF => ?_)
                    · refine gdYT ?_
                      refine gdYT ?_
                      refine condT ?_
                      refine condI hF (fun hF => ?_) (fun hF => ?_)
                      · refine gdYT ?_
                        refine condT ?_
                        refine condI hF (fun hF => ?_) (fun hF => ?_)
                        · refine gdYT ?_
                          refine condT ?_
                          refine condI hF (fun hF => ?_) (fun hF => ?_)
                          · refine gdYT ?_
                            refine condT ?_
                            refine condI hF (fun hF => ?_) (fun hF => ?_)
                            · refine gdYT ?_
                              refine gdYT ?_
                              refine condT ?_
                              refine condI hF (fun hF => ?_) (fun hF => ?_)
                              · refine gdYT ?_
                                refine gdYT ?_
                                refine gdYT ?_
                                refine gdYT ?_
                                refine condT ?_
                                refine condI hF (fun hF => ?_) (fun hF => ?_)
                                · refine gdYT ?_
                                  refine gdYT ?_
                                  refine gdYT ?_
                                  refine gdYT ?_
                                  refine condT ?_
                                  refine condI hF (fun hF => ?_) (fun hF => ?_)
                                  · refine gdYT ?_
                                    refine gdYT ?_
                                    refine gdYT ?_
                                    refine guardI hF (fun hF => ?_)
                                    refine gdYT ?_
                                    refine gdYT ?_
                                    refine condT ?_
                                    refine condI hF (fun hF => ?_) (fun hF => ?_)
                                    · refine gdYT ?_
                                      refine condT ?_
                                      refine condI hF (fun hF => ?_) (fun hF => ?_)
                                      · refine gdYT ?_
                                        refine condT ?_
                                        have hy := someE hF
                                        subst hy
                                        refine And.intro rfl (Exists.intro [] (Exists.intro [] (And.intro rfl (And.intro rfl (And.intro trivial trivial)))))
                                      · refine gdNT ?_
                                        refine condF ?_
                                        have hy := someE hF
                                        subst hy
                                        refine And.intro rfl (Exists.intro [] (Exists.intro [] (And.intro rfl (And.intro rfl (And.intro trivial trivial)))))
                                    · refine gdNT ?_
                                      refine condF ?_
                                      refine gdNT ?_
                                      refine gdNT ?_
                                      refine condF ?_
                                      have hy := someE hF
                                      subst hy
                                      refine And.intro rfl (Exists.intro [] (Exists.intro [] (And.intro rfl (And.intro rfl (And.intro trivial trivial)))))
                                  · refine gdNT ?_
                                    refine gdNT ?_
                                    refine gdNT ?_
                                    refine gdNT ?_
                                    refine gdNT ?_
                                    refine condF ?_
                                    refine gdNT ?_
                                    refine gdNT ?_
                                    refine condF ?_
                                    refine gdNT ?_
                                    refine gdNT ?_
                                    refine condF ?_
                                    have hy := someE hF
                                    subst hy
                                    refine And.intro rfl (Exists.intro [] (Exists.intro [] (And.intro rfl (And.intro rfl (And.intro trivial trivial)))))
                                · refine gdNT ?_
                                  refine gdNT ?_
                                  refine gdNT ?_
                                  refine gdNT ?_
                                  refine condF ?_
                                  refine gdNT ?_
                                  refine gdNT ?_
                                  refine gdNT ?_
                                  refine gdNT ?_
                                  refine gdNT ?_
                                  refine gdNT ?_
                                  refine condF ?_
                                  refine gdNT ?_
                                  refine gdNT ?_
                                  refine condF ?_
                                  refine gdNT ?_
                                  refine gdNT ?_
                                  refine condF ?_
                                  have hy := someE hF
                                  subst hy
                                  refine And.intro rfl (Exists.intro [] (Exists.intro [] (And.intro rfl (And.intro rfl (And.intro trivial trivial)))))
                              · refine gdNT ?_
                                refine gdNT ?_
                                refine gdNT ?_
                                refine gdNT ?_
                                refine condF ?_
                                refine gdNT ?_
                                refine gdNT ?_
                                refine gdNT ?_
                                refine gdNT ?_
                                refine gdNT ?_
                                refine condF ?_
                                refine gdNT ?_
                                refine gdNT ?_
                                refine gdNT ?_
                                refine gdNT ?_
                                refine gdNT ?_
                                refine gdNT ?_
                                refine condF ?_
                                refine gdNT ?_
                                refine gdNT ?_
                                refine condF ?_
                                refine gdNT ?_
                                refine gdNT ?_
                                refine condF ?_
                                have hy := someE hF
                                subst hy
                                refine And.intro rfl (Exists.intro [] (Exists.intro [] (And.intro rfl (And.intro rfl (And.intro trivial trivial)))))
                            · refine gdNT ?_
                              refine gdNT ?_
                              refine condF ?_
                              refine gdNT ?_
                              refine gdNT ?_
                              refine gdNT ?_
                              refine gdNT ?_
                              refine gdNT ?_
                              refine condF ?_
                              refine gdNT ?_
                              refine gdNT ?_
                              refine gdNT ?_
                              refine gdNT ?_
                              refine gdNT ?_
                              refine condF ?_
                              refine gdNT ?_
                              refine gdNT ?_
                              refine gdNT ?_
                              refine gdNT ?_
                              refine gdNT ?_
                              refine gdNT ?_
                              refine condF ?_
                              refine gdNT ?_
                              refine gdNT ?_
                              refine condF ?_
                              refine gdNT ?_
                              refine gdNT ?_
                              refine condF ?_
                              have hy := someE hF
                              subst hy
                              refine And.intro rfl (Exists.intro [] (Exists.intro [] (And.intro rfl (And.intro rfl (And.intro trivial trivial)))))
                          · refine gdNT ?_
                            refine condF ?_
                            refine gdNT ?_
                            refine gdNT ?_
                            refine gdNT ?_
                            refine condF ?_
                            refine gdNT ?_
                            refine gdNT ?_
                            refine gdNT ?_
                            refine gdNT ?_
                            refine gdNT ?_
                            refine condF ?_
                            refine gdNT ?_
                            refine gdNT ?_
                            refine gdNT ?_
                            refine gdNT ?_
                            refine gdNT ?_
                            refine condF ?_
                            refine gdNT ?_
                            refine gdNT ?_
                            refine gdNT ?_
                            refine gdNT ?_
                            refine gdNT ?_
                            refine gdNT ?_
                            refine condF ?_
                            refine gdNT ?_
                            refine gdNT ?_
                            refine condF ?_
                            refine gdNT ?_
                            refine gdNT ?_
                            refine condF ?_
                            have hy := someE hF
                            subst hy
                            refine And.intro rfl (Exists.intro [] (Exists.intro [] (And.intro rfl (And.intro rfl (And.intro trivial trivial)))))
                        · refine gdNT ?_
                          refine condF ?_
                          refine gdNT ?_
                          refine gdNT ?_
                          refine condF ?_
                          refine gdNT ?_
                          refine gdNT ?_
                          refine gdNT ?_
                          refine condF ?_
                          refine gdNT ?_
                          refine gdNT ?_
                          refine gdNT ?_
                          refine gdNT ?_
                          refine gdNT ?_
                          refine condF ?_
                          refine gdNT ?_
                          refine gdNT ?_
                          refine gdNT ?_
                          refine gdNT ?_
                          refine gdNT ?_
                          refine condF ?_
                          refine gdNT ?_
                          refine gdNT ?_
                          refine gdNT ?_
                          refine gdNT ?_
                          refine gdNT ?_
                          refine gdNT ?_
                          refine condF ?_
                          refine gdNT ?_
                          refine gdNT ?_
                          refine condF ?_
                          refine gdNT ?_
                          refine gdNT ?_
                          refine condF ?_
                          have hy := someE hF
                          subst hy
                          refine And.intro rfl (Exists.intro [] (Exists.intro [] (And.intro rfl (And.intro rfl (And.intro trivial trivial)))))
                      · refine gdNT ?_
                        refine condF ?_
                        refine gdNT ?_
                        refine gdNT ?_
                        refine condF ?_
                        refine gdNT ?_
                        refine gdNT ?_
                        refine condF ?_
                        refine gdNT ?_
                        refine gdNT ?_
                        refine gdNT ?_
                        refine condF ?_
                        refine gdNT ?_
                        refine gdNT ?_
                        refine gdNT ?_
                        refine gdNT ?_
                        refine gdNT ?_
                        refine condF ?_
                        refine gdNT ?_
                        refine gdNT ?_
                        refine gdNT ?_
                        refine gdNT ?_
                        refine gdNT ?_
                        refine condF ?_
                        refine gdNT ?_
                        refine gdNT ?_
                        refine gdNT ?_
                        refine gdNT ?_
                        refine gdNT ?_
                        refine gdNT ?_
                        refine condF ?_
                        refine gdNT ?_
                        refine gdNT ?_
                        refine condF ?_
                        refine gdNT ?_
                        refine gdNT ?_
                        refine condF ?_
                        have hy := someE hF
                        subst hy
                        refine And.intro rfl (Exists.intro [] (Exists.intro [] (And.intro rfl (And.intro rfl (And.intro trivial trivial)))))
                    · refine gdNT ?_
                      refine gdNT ?_
                      refine condF ?_
                      refine gdNT ?_
                      refine gdNT ?_
                      refine condF ?_
                      refine gdNT ?_
                      refine gdNT ?_
                      refine condF ?_
                      refine gdNT ?_
                      refine gdNT ?_
                      refine condF ?_
                      refine gdNT ?_
                      refine gdNT ?_
                      refine gdNT ?_
                      refine condF ?_
                      refine gdNT ?_
                      refine gdNT ?_
                      refine gdNT ?_
                      refine gdNT ?_
                      refine gdNT ?_
                      refine condF ?_
                      refine gdNT ?_
                      refine gdNT ?_
                      refine gdNT ?_
                      refine gdNT ?_
                      refine gdNT ?_
                      refine condF ?_
                      refine gdNT ?_
                      refine gdNT ?_
                      refine gdNT ?_
                      refine gdNT ?_
                      refine gdNT ?_
                      refine gdNT ?_
                      refine condF ?_
                      refine gdNT ?_
                      refine gdNT ?_
                      refine condF ?_
                      refine gdNT ?_
                      refine gdNT ?_
                      refine condF ?_
                      have hy := someE hF
                      subst hy
                      refine And.intro rfl (Exists.intro [] (Exists.intro [] (And.intro rfl (And.intro rfl (And.intro trivial trivial)))))
                  · refine gdNT ?_
                    refine gdNT ?_
                    refine condF ?_
                    refine gdNT ?_
                    refine gdNT ?_
                    refine gdNT ?_
                    refine condF ?_
                    refine gdNT ?_
                    refine gdNT ?_
                    refine condF ?_
                    refine gdNT ?_
                    refine gdNT ?_
                    refine condF ?_
                    refine gdNT ?_
                    refine gdNT ?_
                    refine condF ?_
                    refine gdNT ?_
                    refine gdNT ?_
                    refine gdNT ?_
                    refine condF ?_
                    refine gdNT ?_
                    refine gdNT ?_
                    refine gdNT ?_
                    refine gdNT ?_
                    refine gdNT ?_
                    refine condF ?_
                    refine gdNT ?_
                    refine gdNT ?_
                    refine gdNT ?_
                    refine gdNT ?_
                    refine gdNT ?_
                    refine condF ?_
                    refine gdNT ?_
                    refine gdNT ?_
                    refine gdNT ?_
                    refine gdNT ?_
                    refine gdNT ?_
                    refine gdNT ?_
                    refine condF ?_
                    refine gdNT ?_
                    refine gdNT ?_
                    refine condF ?_
                    refine gdNT ?_
                    refine gdNT ?_
                    refine condF ?_
                    have hy := someE hF
                    subst hy
                    refine And.intro rfl (Exists.intro [] (Exists.intro [] (And.intro rfl (And.intro rfl (And.intro trivial trivial)))))
                · refine gdNT ?_
                  refine gdNT ?_
                  refine condF ?_
                  refine gdNT ?_
                  refine gdNT ?_
                  refine gdNT ?_
                  refine condF ?_
                  refine gdNT ?_
                  refine gdNT ?_
                  refine gdNT ?_
                  refine condF ?_
                  refine gdNT ?_
                  refine gdNT ?_
                  refine condF ?_
                  refine gdNT ?_
                  refine gdNT ?_
                  refine condF ?_
                  refine gdNT ?_
                  refine gdNT ?_
                  refine condF ?_
                  refine gdNT ?_
                  refine gdNT ?_
                  refine gdNT ?_
                  refine condF ?_
                  refine gdNT ?_
                  refine gdNT ?_
                  refine gdNT ?_
                  refine gdNT ?_
                  refine gdNT ?_
                  refine condF ?_
                  refine gdNT ?_
                  refine gdNT ?_
                  refine gdNT ?_
                  refine gdNT ?_
                  refine gdNT ?_
                  refine condF ?_
                  refine gdNT ?_
                  refine gdNT ?_
                  refine gdNT ?_
                  refine gdNT ?_
                  refine gdNT ?_
                  refine gdNT ?_
                  refine condF ?_
                  refine gdNT ?_
                  refine gdNT ?_
                  refine condF ?_
                  refine gdNT ?_
                  refine gdNT ?_
                  refine condF ?_
                  have hy := someE hF
                  subst hy
                  refine And.intro rfl (Exists.intro [] (Exists.intro [] (And.intro rfl (And.intro rfl (And.intro trivial trivial)))))
              · refine condF ?_
                refine gdNT ?_
                refine gdNT ?_
                refine gdNT ?_
                refine condF ?_
                refine gdNT ?_
                refine gdNT ?_
                refine gdNT ?_
                refine condF ?_
                refine gdNT ?_
                refine gdNT ?_
                refine gdNT ?_
                refine condF ?_
                refine gdNT ?_
                refine gdNT ?_
                refine condF ?_
                refine gdNT ?_
                refine gdNT ?_
                refine condF ?_
                refine gdNT ?_
                refine gdNT ?_
                refine condF ?_
                refine gdNT ?_
                refine gdNT ?_
                refine gdNT ?_
                refine condF ?_
                refine gdNT ?_
                refine gdNT ?_
                refine gdNT ?_
                refine gdNT ?_
                refine gdNT ?_
                refine condF ?_
                refine gdNT ?_
                refine gdNT ?_
                refine gdNT ?_
                refine gdNT ?_
                refine gdNT ?_
                refine condF ?_
                refine gdNT ?_
                refine gdNT ?_
                refine gdNT ?_
                refine gdNT ?_
                refine gdNT ?_
                refine gdNT ?_
                refine condF ?_
                refine gdNT ?_
                refine gdNT ?_
                refine condF ?_
                refine gdNT ?_
                refine gdNT ?_
                refine condF ?_
                have hy := someE hF
                subst hy
                refine And.intro rfl (Exists.intro [] (Exists.intro [] (And.intro rfl (And.intro rfl (And.intro trivial trivial)))))
            · refine gdNT ?_
              refine condF ?_
              refine gdNT ?_
              refine condF ?_
              refine gdNT ?_
              refine gdNT ?_
              refine gdNT ?_
              refine condF ?_
              refine gdNT ?_
              refine gdNT ?_
              refine gdNT ?_
              refine condF ?_
              refine gdNT ?_
              refine gdNT ?_
              refine gdNT ?_
              refine condF ?_
              refine gdNT ?_
              refine gdNT ?_
              refine condF ?_
              refine gdNT ?_
              refine gdNT ?_
              refine condF ?_
              refine gdNT ?_
              refine gdNT ?_
              refine condF ?_
              refine gdNT ?_
              refine gdNT ?_
              refine gdNT ?_
              refine condF ?_
              refine gdNT ?_
              refine gdNT ?_
              refine gdNT ?_
              refine gdNT ?_
              refine gdNT ?_
              refine condF ?_
              refine gdNT ?_
              refine gdNT ?_
              refine gdNT ?_
              refine gdNT ?_
              refine gdNT ?_
              refine condF ?_
              refine gdNT ?_
              refine gdNT ?_
              refine gdNT ?_
              refine gdNT ?_
              refine gdNT ?_
              refine gdNT ?_
              refine condF ?_
              refine gdNT ?_
              refine gdNT ?_
              refine condF ?_
              refine gdNT ?_
              refine gdNT ?_
              refine condF ?_
              have hy := someE hF
              subst hy
              refine And.intro rfl (Exists.intro [] (Exists.intro [] (And.intro rfl (And.intro rfl (And.intro trivial trivial)))))
          · refine gdNT ?_
            refine condF ?_
            refine gdNT ?_
            refine gdNT ?_
            refine condF ?_
            refine gdNT ?_
            refine condF ?_
            refine gdNT ?_
            refine gdNT ?_
            refine gdNT ?_
            refine condF ?_
            refine gdNT ?_
            refine gdNT ?_
            refine gdNT ?_
            refine condF ?_
            refine gdNT ?_
            refine gdNT ?_
            refine gdNT ?_
            refine condF ?_
            refine gdNT ?_
            refine gdNT ?_
            refine condF ?_
            refine gdNT ?_
            refine gdNT ?_
            refine condF ?_
            refine gdNT ?_
            refine gdNT ?_
            refine condF ?_
            refine gdNT ?_
            refine gdNT ?_
            refine gdNT ?_
            refine condF ?_
            refine gdNT ?_
            refine gdNT ?_
            refine gdNT ?_
            refine gdNT ?_
            refine gdNT ?_
            refine condF ?_
            refine gdNT ?_
            refine gdNT ?_
            refine gdNT ?_
            refine gdNT ?_
            refine gdNT ?_
            refine condF ?_
            refine gdNT ?_
            refine gdNT ?_
            refine gdNT ?_
            refine gdNT ?_
            refine gdNT ?_
            refine gdNT ?_
            refine condF ?_
            refine gdNT ?_
            refine gdNT ?_
            refine condF ?_
            refine gdNT ?_
            refine gdNT ?_
            refine condF ?_
            have hy := someE hF
            subst hy
            refine And.intro rfl (Exists.intro [] (Exists.intro [] (And.intro rfl (And.intro rfl (And.intro trivial trivial)))))
        · refine gdNT ?_
          refine condF ?_
          refine gdNT ?_
          refine gdNT ?_
          refine condF ?_
          refine gdNT ?_
          refine gdNT ?_
          refine condF ?_
          refine gdNT ?_
          refine condF ?_
          refine gdNT ?_
          refine gdNT ?_
          refine gdNT ?_
          refine condF ?_
          refine gdNT ?_
          refine gdNT ?_
          refine gdNT ?_
          refine condF ?_
          refine gdNT ?_
          refine gdNT ?_
          refine gdNT ?_
          refine condF ?_
          refine gdNT ?_
          refine gdNT ?_
          refine condF ?_
          refine gdNT ?_
          refine gdNT ?_
          refine condF ?_
          refine gdNT ?_
          refine gdNT ?_
          refine condF ?_
          refine gdNT ?_
          refine gdNT ?_
          refine gdNT ?_
          refine condF ?_
          refine gdNT ?_
          refine gdNT ?_
          refine gdNT ?_
          refine gdNT ?_
          refine gdNT ?_
          refine condF ?_
          refine gdNT ?_
          refine gdNT ?_
          refine gdNT ?_
          refine gdNT ?_
          refine gdNT ?_
          refine condF ?_
          refine gdNT ?_
          refine gdNT ?_
          refine gdNT ?_
          refine gdNT ?_
          refine gdNT ?_
          refine gdNT ?_
          refine condF ?_
          refine gdNT ?_
          refine gdNT ?_
          refine condF ?_
          refine gdNT ?_
          refine gdNT ?_
          refine condF ?_
          have hy := someE hF
          subst hy
          refine And.intro rfl (Exists.intro [] (Exists.intro [] (And.intro rfl (And.intro rfl (And.intro trivial trivial)))))
      · refine gdNT ?_
        refine condF ?_
        refine gdNT ?_
        refine gdNT ?_
        refine condF ?_
        refine gdNT ?_
        refine gdNT ?_
        refine condF ?_
        refine gdNT ?_
        refine gdNT ?_
        refine condF ?_
        refine gdNT ?_
        refine condF ?_
        refine gdNT ?_
        refine gdNT ?_
        refine gdNT ?_
        refine condF ?_
        refine gdNT ?_
        refine gdNT ?_
        refine gdNT ?_
        refine condF ?_
        refine gdNT ?_
        refine gdNT ?_
        refine gdNT ?_
        refine condF ?_
        refine gdNT ?_
        refine gdNT ?_
        refine condF ?_
        refine gdNT ?_
        refine gdNT ?_
        refine condF ?_
        refine gdNT ?_
        refine gdNT ?_
        refine condF ?_
        refine gdNT ?_
        refine gdNT ?_
        refine gdNT ?_
        refine condF ?_
        refine gdNT ?_
        refine gdNT ?_
        refine gdNT ?_
        refine gdNT ?_
        refine gdNT ?_
        refine condF ?_
        refine gdNT ?_
        refine gdNT ?_
        refine gdNT ?_
        refine gdNT ?_
        refine gdNT ?_
        refine condF ?_
        refine gdNT ?_
        refine gdNT ?_
        refine gdNT ?_
        refine gdNT ?_
        refine gdNT ?_
        refine gdNT ?_
        refine condF ?_
        refine gdNT ?_
        refine gdNT ?_
        refine condF ?_
        refine gdNT ?_
        refine gdNT ?_
        refine condF ?_
        have hy := someE hF
        subst hy
        refine And.intro rfl (Exists.intro [] (Exists.intro [] (And.intro rfl (And.intro rfl (And.intro trivial trivial)))))
    · refine gdNT ?_
      refine condF ?_
      refine gdNT ?_
      refine gdNT ?_
      refine condF ?_
      refine gdNT ?_
      refine gdNT ?_
      refine condF ?_
      refine gdNT ?_
      refine gdNT ?_
      refine condF ?_
      refine gdNT ?_
      refine gdNT ?_
      refine condF ?_
      refine gdNT ?_
      refine condF ?_
      refine gdNT ?_
      refine gdNT ?_
      refine gdNT ?_
      refine condF ?_
      refine gdNT ?_
      refine gdNT ?_
      refine gdNT ?_
      refine condF ?_
      refine gdNT ?_
      refine gdNT ?_
      refine gdNT ?_
      refine condF ?_
      refine gdNT ?_
      refine gdNT ?_
      refine condF ?_
      refine gdNT ?_
      refine gdNT ?_
      refine condF ?_
      refine gdNT ?_
      refine gdNT ?_
      refine condF ?_
      refine gdNT ?_
      refine gdNT ?_
      refine gdNT ?_
      refine condF ?_
      refine gdNT ?_
      refine gdNT ?_
      refine gdNT ?_
      refine gdNT ?_
      refine gdNT ?_
      refine condF ?_
      refine gdNT ?_
      refine gdNT ?_
      refine gdNT ?_
      refine gdNT ?_
      refine gdNT ?_
      refine condF ?_
      refine gdNT ?_
      refine gdNT ?_
      refine gdNT ?_
      refine gdNT ?_
      refine gdNT ?_
      refine gdNT ?_
      refine condF ?_
      refine gdNT ?_
      refine gdNT ?_
      refine condF ?_
      refine gdNT ?_
      refine gdNT ?_
      refine condF ?_
      have hy := someE hF
      subst hy
      refine And.intro rfl (Exists.intro [] (Exists.intro [] (And.intro rfl (And.intro rfl (And.intro trivial trivial)))))
theorem C9_holds : C9.Holds Try.prog 9 := holds_of_vc tab_ok mixed (fn := Try.f9) (by kernel_rfl) rfl C9 (fun x y hF => C9_vc y hF)
theorem f9_in : ∃ fn, Try.prog.funcs[9]? = some fn ∧ fn.body.isSome = true ∧ (fn.name == "runtime.NumGoroutine") = false := ⟨Try.f9, by kernel_rfl, by kernel_rfl, by kernel_rfl⟩
end Go.Proofs
