import Derived.Test.YtdnlicefpmiljaaGreatDoorModelKnownF6
set_option linter.unusedVariables false
set_option maxRecDepth 100000
set_option maxHeartbeats 8000000
namespace Go.Proofs
open Go.AM
-- carousel/carousellaw12.ModelKnown
def f3_s1 : ByteArray := ⟨⟨[105, 110, 32, 50, 32, 98, 101, 110, 100, 32, 49, 32, 115, 107, 105, 112, 32, 115, 107, 105, 112]⟩⟩
def f3_s2 : ByteArray := ⟨⟨[105, 110, 32, 50, 32, 56, 32, 99, 111, 110, 118, 32, 51, 32, 51, 32, 98, 101, 110, 100, 32, 50, 32, 112, 111, 111, 108, 32, 50, 32, 100, 101, 110, 115, 101, 32, 52, 9, 115, 107, 105, 112, 10]⟩⟩
def f3_s3 : ByteArray := ⟨⟨[105, 110, 32, 50, 32, 56, 32, 99, 111, 110, 118, 32, 51, 32, 51, 32, 98, 101, 110, 100, 32, 50, 32, 112, 111, 111, 108, 32, 50, 32, 100, 101, 110, 115, 101, 32, 52, 32, 98, 101, 110, 100, 32, 49, 32, 115, 107, 105, 112]⟩⟩
def f3 : Option Bool :=
  bindF (f9) fun r1 =>
  bif (!r1) then
    some false
  else
    bindF (f10 (ByteArray.mk #[105, 110])) fun r2 =>
    bindF (f10 (ByteArray.mk #[105, 110, 32, 50, 32, 119, 104, 97, 116, 32, 51])) fun r3 =>
    bindF (f10 (ByteArray.mk #[105, 110, 32, 50, 32, 99, 111, 110, 118, 32, 49, 32, 49])) fun r4 =>
    bindF (f10 (ByteArray.mk #[105, 110, 32, 48])) fun r5 =>
    bindF (f10 (ByteArray.mk #[105, 110, 32, 49, 48, 50, 52, 32, 100, 101, 110, 115, 101, 32, 53])) fun r6 =>
    bindF (f10 (ByteArray.mk #[105, 110, 32, 50, 32, 115, 107, 105, 112])) fun r7 =>
    bindF (f10 f3_s1) fun r8 =>
    bindF (f10 f3_s2) fun r9 =>
    bindF (f10 f3_s3) fun r10 =>
    bindF (f11 (r10.1.1, r10.1.2)) fun r11 =>
    bindF (f10 (ByteArray.mk #[105, 110, 32, 50, 32, 100, 101, 110, 115, 101, 32, 48, 50])) fun r12 =>
    bindF (f12 (r10.1.1, r10.1.2)) fun r13 =>
    bif (r2.2 == (7 : Int)) then
      bif (r3.2 == (7 : Int)) then
        bif (r4.2 == (4 : Int)) then
          bif (r5.2 == (1 : Int)) then
            bif (r6.2 == (2 : Int)) then
              bif (r7.2 == (4 : Int)) then
                bif (r8.2 == (4 : Int)) then
                  bif (r9.2 == (4 : Int)) then
                    bif ((List.length r9.1.2 : Int) == (0 : Int)) then
                      bif (r10.2 == (0 : Int)) then
                        bif (r11.1 == (0 : Int)) then
                          bif ((List.length r11.2 : Int) == (7 : Int)) then
                            guardF (0 ≤ (3 : Int) ∧ (3 : Int) < (List.length r11.2 : Int)) <|
                            bindF (f13 (rd (Ty.z (.sl (.int .i64))) r11.2 (3 : Int)) ([(3 : Int), (3 : Int)])) fun r14 =>
                            bif r14 then
                              bif (r12.2 == (7 : Int)) then
                                bif (r13.2 == (0 : Int)) then
                                  bif (r13.1 == (58 : Int)) then
                                    bindF (f14 ([], [])) fun r15 =>
                                    some (ByteArray.toList r15 == ByteArray.toList (ByteArray.mk #[]))
                                  else
                                    some false
                                else
                                  some false
                              else
                                some false
                            else
                              some false
                          else
                            some false
                        else
                          some false
                      else
                        some false
                    else
                      some false
                  else
                    some false
                else
                  some false
              else
                some false
            else
              some false
          else
            some false
        else
          some false
      else
        some false
    else
      some false
def C3 : Con where
  X := Unit
  Y := Bool
  e := 0
  args x := []
  hin x := []
  F x := f3
  ret y := [.dat .bool y]
  hout y := []
  nout := 0
theorem C3_vc (y : Bool) (hF : f3 = some y) : vc Tryz.prog tab Tryz.f3.ntmps 0 (match Tryz.f3.body with | some c => c | none => .skip) (retK tab C3 Tryz.f3.results.toList y) (C3.shIn ()).st := by
  unfold f3 at hF
  refine Or.inl ?_
  refine Or.inl ?_
  refine Or.inl ?_
  obtain ⟨r1, hr1, hF⟩ := bindE hF
  refine Or.inl (And.intro f9_in (callV0 (callI C9 () r1 [] false C9_holds hr1 rfl rfl ?_)))
  refine (And.intro (fun h => nomatch h) (And.intro rfl (And.intro rfl (And.intro trivial (And.intro trivial ?_)))))
  refine condI hF (fun hF => ?_) (fun hF => ?_)
  · refine Or.inl ?_
    have hy := someE hF
    subst hy
    refine And.intro rfl (Exists.intro [] (Exists.intro [] (Exists.intro [] (Exists.intro [] (Exists.intro [] (And.intro rfl (And.intro rfl (And.intro trivial trivial))))))))
  · refine Or.inl ?_
    obtain ⟨r2, hr2, hF⟩ := bindE hF
    refine Or.inl (And.intro f10_in (callV0 (callI C10 (ByteArray.mk #[105, 110]) r2 [] false C10_holds hr2 rfl rfl ?_)))
    refine (And.intro rfl (And.intro (fun h => nomatch h) (And.intro rfl (And.intro rfl (And.intro trivial (And.intro trivial ?_))))))
    refine Or.inl ?_
    refine Or.inl ?_
    obtain ⟨r3, hr3, hF⟩ := bindE hF
    refine Or.inl (And.intro f10_in (callV0 (callI C10 (ByteArray.mk #[105, 110, 32, 50, 32, 119, 104, 97, 116, 32, 51]) r3 [] false C10_holds hr3 rfl rfl ?_)))
    refine (And.intro rfl (And.intro (fun h => nomatch h) (And.intro rfl (And.intro rfl (And.intro trivial (And.intro trivial ?_))))))
    refine Or.inl ?_
    refine Or.inl ?_
    obtain ⟨r4, hr4, hF⟩ := bindE hF
    refine Or.inl (And.intro f10_in (callV0 (callI C10 (ByteArray.mk #[105, 110, 32, 50, 32, 99, 111, 110, 118, 32, 49, 32, 49]) r4 [] false C10_holds hr4 rfl rfl ?_)))
    refine (And.intro rfl (And.intro (fun h => nomatch h) (And.intro rfl (And.intro rfl (And.intro trivial (And.intro trivial ?_))))))
    refine Or.inl ?_
    refine Or.inl ?_
    obtain ⟨r5, hr5, hF⟩ := bindE hF
    refine Or.inl (And.intro f10_in (callV0 (callI C10 (ByteArray.mk #[105, 110, 32, 48]) r5 [] false C10_holds hr5 rfl rfl ?_)))
    refine (And.intro rfl (And.intro (fun h => nomatch h) (And.intro rfl (And.intro rfl (And.intro trivial (And.intro trivial ?_))))))
    refine Or.inl ?_
    refine Or.inl ?_
    obtain ⟨r6, hr6, hF⟩ := bindE hF
    refine Or.inl (And.intro f10_in (callV0 (callI C10 (ByteArray.mk #[105, 110, 32, 49, 48, 50, 52, 32, 100, 101, 110, 115, 101, 32, 53]) r6 [] false C10_holds hr6 rfl rfl ?_)))
    refine (And.intro rfl (And.intro (fun h => nomatch h) (And.intro rfl (And.intro rfl (And.intro trivial (And.intro trivial ?_))))))
    refine Or.inl ?_
    refine Or.inl ?_
    obtain ⟨r7, hr7, hF⟩ := bindE hF
    refine Or.inl (And.intro f10_in (callV0 (callI C10 (ByteArray.mk #[105, 110, 32, 50, 32, 115, 107, 105, 112]) r7 [] false C10_holds hr7 rfl rfl ?_)))
    refine (And.intro rfl (And.intro (fun h => nomatch h) (And.intro rfl (And.intro rfl (And.intro trivial (And.intro trivial ?_))))))
    refine Or.inl ?_
    refine Or.inl ?_
    obtain ⟨r8, hr8, hF⟩ := bindE hF
    refine Or.inl (And.intro f10_in (callV0 (callI C10 f3_s1 r8 [] false C10_holds hr8 rfl rfl ?_)))
    refine (And.intro rfl (And.intro (fun h => nomatch h) (And.intro rfl (And.intro rfl (And.intro trivial (And.intro trivial ?_))))))
    refine Or.inl ?_
    refine Or.inl ?_
    obtain ⟨r9, hr9, hF⟩ := bindE hF
    refine Or.inl (And.intro f10_in (callV0 (callI C10 f3_s2 r9 [] false C10_holds hr9 rfl rfl ?_)))
    refine (And.intro rfl (And.intro (fun h => nomatch h) (And.intro rfl (And.intro rfl (And.intro trivial (And.intro trivial ?_))))))
    refine Or.inl ?_
    refine Or.inl ?_
    obtain ⟨r10, hr10, hF⟩ := bindE hF
    refine Or.inl (And.intro f10_in (callV0 (callI C10 f3_s3 r10 [] false C10_holds hr10 rfl rfl ?_)))
    refine (And.intro rfl (And.intro (fun h => nomatch h) (And.intro rfl (And.intro rfl (And.intro trivial (And.intro trivial ?_))))))
    refine Or.inl ?_
    refine Or.inl ?_
    obtain ⟨r11, hr11, hF⟩ := bindE hF
    refine Or.inl (And.intro f11_in (callV0 (callI C11 (r10.1.1, r10.1.2) r11 [] false C11_holds hr11 rfl rfl ?_)))
    refine (And.intro rfl (And.intro rfl (And.intro (fun h => nomatch h) (And.intro rfl (And.intro rfl (And.intro trivial (And.intro trivial ?_)))))))
    refine Or.inl ?_
    obtain ⟨r12, hr12, hF⟩ := bindE hF
    refine Or.inl (And.intro f10_in (callV0 (callI C10 (ByteArray.mk #[105, 110, 32, 50, 32, 100, 101, 110, 115, 101, 32, 48, 50]) r12 [] false C10_holds hr12 rfl rfl ?_)))
    refine (And.intro rfl (And.intro (fun h => nomatch h) (And.intro rfl (And.intro rfl (And.intro trivial (And.intro trivial ?_))))))
    refine Or.inl ?_
    refine Or.inl ?_
    obtain ⟨r13, hr13, hF⟩ := bindE hF
    refine Or.inl (And.intro f12_in (callV0 (callI C12 (r10.1.1, r10.1.2) r13 [] false C12_holds hr13 rfl rfl ?_)))
    refine (And.intro rfl (And.intro rfl (And.intro (fun h => nomatch h) (And.intro rfl (And.intro rfl (And.intro trivial (And.intro trivial ?_)))))))
    refine Or.inl ?_
    refine condI hF (fun hF => ?_) (fun hF => ?_)
    · refine gdYT ?_
      refine condT ?_
      refine condI hF (fun hF => ?_) (fun hF => ?_)
      · refine gdYT ?_
        refine condT ?_
        refine condI hF (fun hF => ?_) (fun hF => ?_)
        · refine gdYT ?_
          refine condT ?_
          refine condI hF (fun hF => ?_) (fun hF => ?_)
          · refine gdYT ?_
            refine condT ?_
            refine condI hF (fun hF => ?_) (fun hF => ?_)
            · refine gdYT ?_
              refine condT ?_
              refine condI hF (fun hF => ?_) (fun hF => ?_)
              · refine gdYT ?_
                refine condT ?_
                refine condI hF (fun hF => ?_) (fun hF => ?_)
                · refine gdYT ?_
                  refine condT ?_
                  refine condI hF (fun hF => ?_) (fun hF => ?_)
                  · refine gdYT ?_
                    refine gdYT ?_
                    refine gdYT ?_
                    refine condT ?_
                    refine condI hF (fun hF => ?_) (fun hF => ?_)
                    · refine gdYT ?_
                      refine condT ?_
                      refine condI hF (fun hF => ?_) (fun hF => ?_)
                      · refine gdYT ?_
                        refine condT ?_
                        refine condI hF (fun hF => ?_) (fun hF => ?_)
                        · refine gdYT ?_
                          refine gdYT ?_
                          refine condT ?_
                          refine condI hF (fun hF => ?_) (fun hF => ?_)
                          · refine gdYT ?_
                            refine guardI hF (fun hF => ?_)
                            refine gdYT ?_
                            refine gdYT ?_
                            refine Or.inl ?_
                            refine gdYT ?_
                            obtain ⟨r14, hr14, hF⟩ := bindE hF
                            refine Or.inl (And.intro f13_in (callV0 (callI C13 ((rd (Ty.z (.sl (.int .i64))) r11.2 (3 : Int)), [(3 : Int), (3 : Int)]) r14 [] true C13_holds hr14 rfl rfl ?_)))
                            refine (And.intro rfl (And.intro rfl (And.intro (fun _ => rfl) (And.intro rfl (And.intro rfl (And.intro trivial (And.intro trivial ?_)))))))
                            refine condT ?_
                            refine condI hF (fun hF => ?_) (fun hF => ?_)
                            · refine gdYT ?_
                              refine condT ?_
                              refine condI hF (fun hF => ?_) (fun hF => ?_)
                              · refine gdYT ?_
                                refine condT ?_
                                refine condI hF (fun hF => ?_) (fun hF => ?_)
                                · refine gdYT ?_
                                  refine condT ?_
                                  refine condI hF (fun hF => ?_) (fun hF => ?_)
                                  · refine gdYT ?_
                                    obtain ⟨r15, hr15, hF⟩ := bindE hF
                                    refine Or.inl (And.intro f14_in (callV0 (callI C14 ([], []) r15 [] false C14_holds hr15 rfl rfl ?_)))
                                    refine (And.intro rfl (And.intro rfl (And.intro (fun h => nomatch h) (And.intro rfl (And.intro rfl (And.intro trivial (And.intro trivial ?_)))))))
                                    refine gdYT ?_
                                    refine condT ?_
                                    have hy := someE hF
                                    subst hy
                                    refine And.intro rfl (Exists.intro [] (Exists.intro [] (Exists.intro [] (Exists.intro [] (Exists.intro [] (And.intro rfl (And.intro rfl (And.intro trivial trivial))))))))
                                  · refine gdNT ?_
                                    refine gdNT ?_
                                    refine condF ?_
                                    have hy := someE hF
                                    subst hy
                                    refine And.intro rfl (Exists.intro [] (Exists.intro [] (Exists.intro [] (Exists.intro [] (Exists.intro [] (And.intro rfl (And.intro rfl (And.intro trivial trivial))))))))
                                · refine gdNT ?_
                                  refine condF ?_
                                  refine gdNT ?_
                                  refine gdNT ?_
                                  refine gdNT ?_
                                  refine condF ?_
                                  have hy := someE hF
                                  subst hy
                                  refine And.intro rfl (Exists.intro [] (Exists.intro [] (Exists.intro [] (Exists.intro [] (Exists.intro [] (And.intro rfl (And.intro rfl (And.intro trivial trivial))))))))
                              · refine gdNT ?_
                                refine condF ?_
                                refine gdNT ?_
                                refine gdNT ?_
                                refine condF ?_
                                refine gdNT ?_
                                refine gdNT ?_
                                refine gdNT ?_
                                refine condF ?_
                                have hy := someE hF
                                subst hy
                                refine And.intro rfl (Exists.intro [] (Exists.intro [] (Exists.intro [] (Exists.intro [] (Exists.intro [] (And.intro rfl (And.intro rfl (And.intro trivial trivial))))))))
                            · refine gdNT ?_
                              refine condF ?_
                              refine gdNT ?_
                              refine gdNT ?_
                              refine condF ?_
                              refine gdNT ?_
                              refine gdNT ?_
                              refine condF ?_
                              refine gdNT ?_
                              refine gdNT ?_
                              refine gdNT ?_
                              refine condF ?_
                              have hy := someE hF
                              subst hy
                              refine And.intro rfl (Exists.intro [] (Exists.intro [] (Exists.intro [] (Exists.intro [] (Exists.intro [] (And.intro rfl (And.intro rfl (And.intro trivial trivial))))))))
                          · refine gdNT ?_
                            refine gdNT ?_
                            refine gdNT ?_
                            refine gdNT ?_
                            refine condF ?_
                            refine gdNT ?_
                            refine gdNT ?_
                            refine condF ?_
                            refine gdNT ?_
                            refine gdNT ?_
                            refine condF ?_
                            refine gdNT ?_
                            refine gdNT ?_
                            refine condF ?_
                            refine gdNT ?_
                            refine gdNT ?_
                            refine gdNT ?_
                            refine condF ?_
                            have hy := someE hF
                            subst hy
                            refine And.intro rfl (Exists.intro [] (Exists.intro [] (Exists.intro [] (Exists.intro [] (Exists.intro [] (And.intro rfl (And.intro rfl (And.intro trivial trivial))))))))
                        · refine gdNT ?_
                          refine gdNT ?_
                          refine condF ?_
                          refine gdNT ?_
                          refine gdNT ?_
                          refine gdNT ?_
                          refine gdNT ?_
                          refine gdNT ?_
                          refine condF ?_
                          refine gdNT ?_
                          refine gdNT ?_
                          refine condF ?_
                          refine gdNT ?_
                          refine gdNT ?_
                          refine condF ?_
                          refine gdNT ?_
                          refine gdNT ?_
                          refine condF ?_
                          refine gdNT ?_
                          refine gdNT ?_
                          refine gdNT ?_
                          refine condF ?_
                          have hy := someE hF
                          subst hy
                          refine And.intro rfl (Exists.intro [] (Exists.intro [] (Exists.intro [] (Exists.intro [] (Exists.intro [] (And.intro rfl (And.intro rfl (And.intro trivial trivial))))))))
                      · refine gdNT ?_
                        refine condF ?_
                        refine gdNT ?_
                        refine gdNT ?_
                        refine gdNT ?_
                        refine condF ?_
                        refine gdNT ?_
                        refine gdNT ?_
                        refine gdNT ?_
                        refine gdNT ?_
                        refine gdNT ?_
                        refine condF ?_
                        refine gdNT ?_
                        refine gdNT ?_
                        refine condF ?_
                        refine gdNT ?_
                        refine gdNT ?_
                        refine condF ?_
                        refine gdNT ?_
                        refine gdNT ?_
                        refine condF ?_
                        refine gdNT ?_
                        refine gdNT ?_
                        refine gdNT ?_
                        refine condF ?_
                        have hy := someE hF
                        subst hy
                        refine And.intro rfl (Exists.intro [] (Exists.intro [] (Exists.intro [] (Exists.intro [] (Exists.intro [] (And.intro rfl (And.intro rfl (And.intro trivial trivial))))))))
                    · refine gdNT ?_
                      refine condF ?_
                      refine gdNT ?_
                      refine gdNT ?_
                      refine condF ?_
                      refine gdNT ?_
                      refine gdNT ?_
                      refine gdNT ?_
                      refine condF ?_
                      refine gdNT ?_
                      refine gdNT ?_
                      refine gdNT ?_
                      refine gdNT ?_
                      refine gdNT ?_
                      refine condF ?_
                      refine gdNT ?_
                      refine gdNT ?_
                      refine condF ?_
                      refine gdNT ?_
                      refine gdNT ?_
                      refine condF ?_
                      refine gdNT ?_
                      refine gdNT ?_
                      refine condF ?_
                      refine gdNT ?_
                      refine gdNT ?_
                      refine gdNT ?_
                      refine condF ?_
                      have hy := someE hF
                      subst hy
                      refine And.intro rfl (Exists.intro [] (Exists.intro [] (Exists.intro [] (Exists.intro [] (Exists.intro [] (And.intro rfl (And.intro rfl (And.intro trivial trivial))))))))
                  · refine gdNT ?_
                    refine gdNT ?_
                    refine gdNT ?_
                    refine condF ?_
                    refine gdNT ?_
                    refine gdNT ?_
                    refine condF ?_
                    refine gdNT ?_
                    refine gdNT ?_
                    refine condF ?_
                    refine gdNT ?_
                    refine gdNT ?_
                    refine gdNT ?_
                    refine condF ?_
                    refine gdNT ?_
                    refine gdNT ?_
                    refine gdNT ?_
                    refine gdNT ?_
                    refine gdNT ?_
                    refine condF ?_
                    refine gdNT ?_
                    refine gdNT ?_
                    refine condF ?_
                    refine gdNT ?_
                    refine gdNT ?_
                    refine condF ?_
                    refine gdNT ?_
                    refine gdNT ?_
                    refine condF ?_
                    refine gdNT ?_
                    refine gdNT ?_
                    refine gdNT ?_
                    refine condF ?_
                    have hy := someE hF
                    subst hy
                    refine And.intro rfl (Exists.intro [] (Exists.intro [] (Exists.intro [] (Exists.intro [] (Exists.intro [] (And.intro rfl (And.intro rfl (And.intro trivial trivial))))))))
                · refine gdNT ?_
                  refine condF ?_
                  refine gdNT ?_
                  refine gdNT ?_
                  refine gdNT ?_
                  refine gdNT ?_
                  refine condF ?_
                  refine gdNT ?_
                  refine gdNT ?_
                  refine condF ?_
                  refine gdNT ?_
                  refine gdNT ?_
                  refine condF ?_
                  refine gdNT ?_
                  refine gdNT ?_
                  refine gdNT ?_
                  refine condF ?_
                  refine gdNT ?_
                  refine gdNT ?_
                  refine gdNT ?_
                  refine gdNT ?_
                  refine gdNT ?_
                  refine condF ?_
                  refine gdNT ?_
                  refine gdNT ?_
                  refine condF ?_
                  refine gdNT ?_
                  refine gdNT ?_
                  refine condF ?_
                  refine gdNT ?_
                  refine gdNT ?_
                  refine condF ?_
                  refine gdNT ?_
                  refine gdNT ?_
                  refine gdNT ?_
                  refine condF ?_
                  have hy := someE hF
                  subst hy
                  refine And.intro rfl (Exists.intro [] (Exists.intro [] (Exists.intro [] (Exists.intro [] (Exists.intro [] (And.intro rfl (And.intro rfl (And.intro trivial trivial))))))))
              · refine gdNT ?_
                refine condF ?_
                refine gdNT ?_
                refine gdNT ?_
                refine condF ?_
                refine gdNT ?_
                refine gdNT ?_
                refine gdNT ?_
                refine gdNT ?_
                refine condF ?_
                refine gdNT ?_
                refine gdNT ?_
                refine condF ?_
                refine gdNT ?_
                refine gdNT ?_
                refine condF ?_
                refine gdNT ?_
                refine gdNT ?_
                refine gdNT ?_
                refine condF ?_
                refine gdNT ?_
                refine gdNT ?_
                refine gdNT ?_
                refine gdNT ?_
                refine gdNT ?_
                refine condF ?_
                refine gdNT ?_
                refine gdNT ?_
                refine condF ?_
                refine gdNT ?_
                refine gdNT ?_
                refine condF ?_
                refine gdNT ?_
                refine gdNT ?_
                refine condF ?_
                refine gdNT ?_
                refine gdNT ?_
                refine gdNT ?_
                refine condF ?_
                have hy := someE hF
                subst hy
                refine And.intro rfl (Exists.intro [] (Exists.intro [] (Exists.intro [] (Exists.intro [] (Exists.intro [] (And.intro rfl (And.intro rfl (And.intro trivial trivial))))))))
            · refine gdNT ?_
              refine condF ?_
              refine gdNT ?_
              refine gdNT ?_
              refine condF ?_
              refine gdNT ?_
              refine gdNT ?_
              refine condF ?_
              refine gdNT ?_
              refine gdNT ?_
              refine gdNT ?_
              refine gdNT ?_
              refine condF ?_
              refine gdNT ?_
              refine gdNT ?_
              refine condF ?_
              refine gdNT ?_
              refine gdNT ?_
              refine condF ?_
              refine gdNT ?_
              refine gdNT ?_
              refine gdNT ?_
              refine condF ?_
              refine gdNT ?_
              refine gdNT ?_
              refine gdNT ?_
              refine gdNT ?_
              refine gdNT ?_
              refine condF ?_
              refine gdNT ?_
              refine gdNT ?_
              refine condF ?_
              refine gdNT ?_
              refine gdNT ?_
              refine condF ?_
              refine gdNT ?_
              refine gdNT ?_
              refine condF ?_
              refine gdNT ?_
              refine gdNT ?_
              refine gdNT ?_
              refine condF ?_
              have hy := someE hF
              subst hy
              refine And.intro rfl (Exists.intro [] (Exists.intro [] (Exists.intro [] (Exists.intro [] (Exists.intro [] (And.intro rfl (And.intro rfl (And.intro trivial trivial))))))))
          · refine gdNT ?_
            refine condF ?_
            refine gdNT ?_
            refine gdNT ?_
            refine condF ?_
            refine gdNT ?_
            refine gdNT ?_
            refine condF ?_
            refine gdNT ?_
            refine gdNT ?_
            refine condF ?_
            refine gdNT ?_
            refine gdNT ?_
            refine gdNT ?_
            refine gdNT ?_
            refine condF ?_
            refine gdNT ?_
            refine gdNT ?_
            refine condF ?_
            refine gdNT ?_
            refine gdNT ?_
            refine condF ?_
            refine gdNT ?_
            refine gdNT ?_
            refine gdNT ?_
            refine condF ?_
            refine gdNT ?_
            refine gdNT ?_
            refine gdNT ?_
            refine gdNT ?_
            refine gdNT ?_
            refine condF ?_
            refine gdNT ?_
            refine gdNT ?_
            refine condF ?_
            refine gdNT ?_
            refine gdNT ?_
            refine condF ?_
            refine gdNT ?_
            refine gdNT ?_
            refine condF ?_
            refine gdNT ?_
            refine gdNT ?_
            refine gdNT ?_
            refine condF ?_
            have hy := someE hF
            subst hy
            refine And.intro rfl (Exists.intro [] (Exists.intro [] (Exists.intro [] (Exists.intro [] (Exists.intro [] (And.intro rfl (And.intro rfl (And.intro trivial trivial))))))))
        · refine gdNT ?_
          refine condF ?_
          refine gdNT ?_
          refine gdNT ?_
          refine condF ?_
          refine gdNT ?_
          refine gdNT ?_
          refine condF ?_
          refine gdNT ?_
          refine gdNT ?_
          refine condF ?_
          refine gdNT ?_
          refine gdNT ?_
          refine condF ?_
          refine gdNT ?_
          refine gdNT ?_
          refine gdNT ?_
          refine gdNT ?_
          refine condF ?_
          refine gdNT ?_
          refine gdNT ?_
          refine condF ?_
          refine gdNT ?_
          refine gdNT ?_
          refine condF ?_
          refine gdNT ?_
          refine gdNT ?_
          refine gdNT ?_
          refine condF ?_
          refine gdNT ?_
          refine gdNT ?_
          refine gdNT ?_
          refine gdNT ?_
          refine gdNT ?_
          refine condF ?_
          refine gdNT ?_
          refine gdNT ?_
          refine condF ?_
          refine gdNT ?_
          refine gdNT ?_
          refine condF ?_
          refine gdNT ?_
          refine gdNT ?_
          refine condF ?_
          refine gdNT ?_
          refine gdNT ?_
          refine gdNT ?_
          refine condF ?_
          have hy := someE hF
          subst hy
          refine And.intro rfl (Exists.intro [] (Exists.intro [] (Exists.intro [] (Exists.intro [] (Exists.intro [] (And.intro rfl (And.intro rfl (And.intro trivial trivial))))))))
      · refine gdNT ?_
        refine condF ?_
        refine gdNT ?_
        refine gdNT ?_
        refine condF ?_
        refine gdNT ?_
        refine gdNT ?_
        refine condF ?_
        refine gdNT ?_
        refine gdNT ?_
        refine condF ?_
        refine gdNT ?_
        refine gdNT ?_
        refine condF ?_
        refine gdNT ?_
        refine gdNT ?_
        refine condF ?_
        refine gdNT ?_
        refine gdNT ?_
        refine gdNT ?_
        refine gdNT ?_
        refine condF ?_
        refine gdNT ?_
        refine gdNT ?_
        refine condF ?_
        refine gdNT ?_
        refine gdNT ?_
        refine condF ?_
        refine gdNT ?_
        refine gdNT ?_
        refine gdNT ?_
        refine condF ?_
        refine gdNT ?_
        refine gdNT ?_
        refine gdNT ?_
        refine gdNT ?_
        refine gdNT ?_
        refine condF ?_
        refine gdNT ?_
        refine gdNT ?_
        refine condF ?_
        refine gdNT ?_
        refine gdNT ?_
        refine condF ?_
        refine gdNT ?_
        refine gdNT ?_
        refine condF ?_
        refine gdNT ?_
        refine gdNT ?_
        refine gdNT ?_
        refine condF ?_
        have hy := someE hF
        subst hy
        refine And.intro rfl (Exists.intro [] (Exists.intro [] (Exists.intro [] (Exists.intro [] (Exists.intro [] (And.intro rfl (And.intro rfl (And.intro trivial trivial))))))))
    · refine gdNT ?_
      refine condF ?_
      refine gdNT ?_
      refine gdNT ?_
      refine condF ?_
      refine gdNT ?_
      refine gdNT ?_
      refine condF ?_
      refine gdNT ?_
      refine gdNT ?_
      refine condF ?_
      refine gdNT ?_
      refine gdNT ?_
      refine condF ?_
      refine gdNT ?_
      refine gdNT ?_
      refine condF ?_
      refine gdNT ?_
      refine gdNT ?_
      refine condF ?_
      refine gdNT ?_
      refine gdNT ?_
      refine gdNT ?_
      refine gdNT ?_
      refine condF ?_
      refine gdNT ?_
      refine gdNT ?_
      refine condF ?_
      refine gdNT ?_
      refine gdNT ?_
      refine condF ?_
      refine gdNT ?_
      refine gdNT ?_
      refine gdNT ?_
      refine condF ?_
      refine gdNT ?_
      refine gdNT ?_
      refine gdNT ?_
      refine gdNT ?_
      refine gdNT ?_
      refine condF ?_
      refine gdNT ?_
      refine gdNT ?_
      refine condF ?_
      refine gdNT ?_
      refine gdNT ?_
      refine condF ?_
      refine gdNT ?_
      refine gdNT ?_
      refine condF ?_
      refine gdNT ?_
      refine gdNT ?_
      refine gdNT ?_
      refine condF ?_
      have hy := someE hF
      subst hy
      refine And.intro rfl (Exists.intro [] (Exists.intro [] (Exists.intro [] (Exists.intro [] (Exists.intro [] (And.intro rfl (And.intro rfl (And.intro trivial trivial))))))))
theorem C3_holds : C3.Holds Tryz.prog 3 := holds_of_vc tab_ok mixed (fn := Tryz.f3) (by kernel_rfl) rfl C3 (fun x y hF => C3_vc y hF)
theorem f3_in : ∃ fn, Tryz.prog.funcs[3]? = some fn ∧ fn.body.isSome = true ∧ (fn.name == "runtime.NumGoroutine") = false := ⟨Tryz.f3, by kernel_rfl, by kernel_rfl, by kernel_rfl⟩
end Go.Proofs
