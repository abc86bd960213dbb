import Derived.Test.YtmkekohdmdjdlaaMatmKnownF2
set_option linter.unusedVariables false
set_option maxRecDepth 100000
set_option maxHeartbeats 8000000
namespace Go.Proofs
open Go.AM
-- carousel/carousellaw7.MatmKnown
def f7 : Option Bool :=
  bindF (f13) fun q11_59 =>
  bif (!q11_59) then
    some false
  else
    bindF (f22 (2 : Int) ([(1 : Int), (2 : Int), (3 : Int), (4 : Int), (5 : Int), (6 : Int)])) fun r1 =>
    bindF (f17 (r1.2, r1.1) (r1.2, r1.1)) fun r2 =>
    bindF (f18 (r1.2, r1.1)) fun r3 =>
    bindF (f23 (r1.2, r1.1) (1 : Int)) fun r4 =>
    bindF (f23 (r1.2, r1.1) (2 : Int)) fun r5 =>
    bindF (f24 (r1.2, r1.1)) fun r6 =>
    bindF (f22 (1 : Int) ([(1 : Int), (2 : Int)])) fun r7 =>
    bindF (f25 (r7.2, r7.1)) fun r8 =>
    bindF (f17 ([], []) (r1.2, r1.1)) fun r9 =>
    bif (r2.1 == (4 : Int)) then
      bif (r3.1 == (0 : Int)) then
        bindF (f22 (3 : Int) ([(1 : Int), (4 : Int), (2 : Int), (5 : Int), (3 : Int), (6 : Int)])) fun q11_9 =>
        bindF (f19 (r3.2.1, r3.2.2) (q11_9.2, q11_9.1)) fun q11_10 =>
        bif q11_10 then
          bif (r4.1 == (0 : Int)) then
            bindF (f19 (r4.2.1, r4.2.2) ([(2 : Int)], [(6 : Int), (15 : Int)])) fun q11_21 =>
            bif q11_21 then
              bif (r5.1 == (1 : Int)) then
                bif (r6.2 == (0 : Int)) then
                  bif (r6.1 == (21 : Int)) then
                    bif (r8.2 == (0 : Int)) then
                      bif (r8.1 == (2 : Int)) then
                        bif (r9.1 == (1 : Int)) then
                          bindF (f14 ([(-9223372036854775808 : Int), (-9223372036854775808 : Int)]) ([(-9223372036854775808 : Int), (-9223372036854775808 : Int)])) fun q11_50 =>
                          bif (q11_50 == (9223372036854775807 : Int)) then
                            bindF (f14 ([(1 : Int), (1 : Int)]) ([(2147483648 : Int), (2147483648 : Int)])) fun q11_56 =>
                            some (q11_56 == (1 : Int))
                          else
                            some false
                        else
                          some false
                      else
                        some false
                    else
                      some false
                  else
                    some false
                else
                  some false
              else
                some false
            else
              some false
          else
            some false
        else
          some false
      else
        some false
    else
      some false
def C7 : Con where
  X := Unit
  Y := Bool
  e := 0
  args x := []
  hin x := []
  F x := f7
  ret y := [.dat .bool y]
  hout y := []
  nout := 0
theorem C7_vc (y : Bool) (hF : f7 = some y) : vc Try.prog tab Try.f7.ntmps 0 (match Try.f7.body with | some c => c | none => .skip) (retK tab C7 Try.f7.results.toList y) (C7.shIn ()).st := by
  unfold f7 at hF
  refine Or.inl ?_
  refine Or.inl ?_
  refine Or.inl ?_
  obtain ⟨q11_59, hq11_59, hF⟩ := bindE hF
  refine Or.inl (And.intro f13_in (callI C13 () q11_59 [] false C13_holds hq11_59 rfl rfl ?_))
  refine (And.intro (fun h => nomatch h) (And.intro rfl (And.intro rfl (And.intro trivial (And.intro trivial ?_)))))
  refine condI hF (fun hF => ?_) (fun hF => ?_)
  · refine Or.inl ?_
    have hy := someE hF
    subst hy
    refine And.intro rfl (Exists.intro [] (Exists.intro [] (And.intro rfl (And.intro rfl (And.intro trivial trivial)))))
  · refine Or.inl ?_
    obtain ⟨r1, hr1, hF⟩ := bindE hF
    refine Or.inl (And.intro f22_in (callI C22 ((2 : Int), [(1 : Int), (2 : Int), (3 : Int), (4 : Int), (5 : Int), (6 : Int)]) r1 [] false C22_holds hr1 rfl rfl ?_))
    refine (And.intro rfl (And.intro rfl (And.intro (fun h => nomatch h) (And.intro rfl (And.intro rfl (And.intro trivial (And.intro trivial ?_)))))))
    refine Or.inl ?_
    obtain ⟨r2, hr2, hF⟩ := bindE hF
    refine Or.inl (And.intro f17_in (callI C17 ((r1.2, r1.1), (r1.2, r1.1)) r2 [] true C17_holds hr2 rfl rfl ?_))
    refine (And.intro rfl (And.intro rfl (And.intro rfl (And.intro rfl (And.intro (fun _ => rfl) (And.intro rfl (And.intro rfl (And.intro trivial (And.intro trivial ?_)))))))))
    refine Or.inl ?_
    obtain ⟨r3, hr3, hF⟩ := bindE hF
    refine Or.inl (And.intro f18_in (callI C18 (r1.2, r1.1) r3 [] true C18_holds hr3 rfl rfl ?_))
    refine (And.intro rfl (And.intro rfl (And.intro (fun _ => rfl) (And.intro rfl (And.intro rfl (And.intro trivial (And.intro trivial ?_)))))))
    refine Or.inl ?_
    obtain ⟨r4, hr4, hF⟩ := bindE hF
    refine Or.inl (And.intro f23_in (callI C23 ((r1.2, r1.1), (1 : Int)) r4 [] true C23_holds hr4 rfl rfl ?_))
    refine (And.intro rfl (And.intro rfl (And.intro rfl (And.intro (fun _ => rfl) (And.intro rfl (And.intro rfl (And.intro trivial (And.intro trivial ?_))))))))
    refine Or.inl ?_
    obtain ⟨r5, hr5, hF⟩ := bindE hF
    refine Or.inl (And.intro f23_in (callI C23 ((r1.2, r1.1), (2 : Int)) r5 [] true C23_holds hr5 rfl rfl ?_))
    refine (And.intro rfl (And.intro rfl (And.intro rfl (And.intro (fun _ => rfl) (And.intro rfl (And.intro rfl (And.intro trivial (And.intro trivial ?_))))))))
    refine Or.inl ?_
    obtain ⟨r6, hr6, hF⟩ := bindE hF
    refine Or.inl (And.intro f24_in (callI C24 (r1.2, r1.1) r6 [] true C24_holds hr6 rfl rfl ?_))
    refine (And.intro rfl (And.intro rfl (And.intro (fun _ => rfl) (And.intro rfl (And.intro rfl (And.intro trivial (And.intro trivial ?_)))))))
    refine Or.inl ?_
    obtain ⟨r7, hr7, hF⟩ := bindE hF
    refine Or.inl (And.intro f22_in (callI C22 ((1 : Int), [(1 : Int), (2 : Int)]) r7 [] false C22_holds hr7 rfl rfl ?_))
    refine (And.intro rfl (And.intro rfl (And.intro (fun h => nomatch h) (And.intro rfl (And.intro rfl (And.intro trivial (And.intro trivial ?_)))))))
    obtain ⟨r8, hr8, hF⟩ := bindE hF
    refine Or.inl (And.intro f25_in (callI C25 (r7.2, r7.1) r8 [] true C25_holds hr8 rfl rfl ?_))
    refine (And.intro rfl (And.intro rfl (And.intro (fun _ => rfl) (And.intro rfl (And.intro rfl (And.intro trivial (And.intro trivial ?_)))))))
    refine Or.inl ?_
    obtain ⟨r9, hr9, hF⟩ := bindE hF
    refine Or.inl (And.intro f17_in (callI C17 (([], []), (r1.2, r1.1)) r9 [] true C17_holds hr9 rfl rfl ?_))
    refine (And.intro rfl (And.intro rfl (And.intro rfl (And.intro rfl (And.intro (fun _ => rfl) (And.intro rfl (And.intro rfl (And.intro trivial (And.intro trivial ?_)))))))))
    refine Or.inl ?_
    refine Exists.intro (.take 0 (.take 1 (.take 2 (.take 3 (.take 4 (.take 5 (.take 6 (.take 7 (.alt 8 (.alt 9 (.alt 10 (.take 11 (.take 12 (.take 13 (.take 14 (.take 15 (.take 16 (.take 17 (.alt 18 (.alt 19 (.take 20 (.alt 21 (.take 22 (.take 23 (.take 24 (.take 25 (.take 26 (.take 27 (.take 28 (.take 29 (.take 30 (.take 31 (.take 32 (.take 33 (.take 34 (.take 35 (.take 36 (.take 37 (.take 38 (.take 39 (.take 40 (.take 41 (.take 42 (.take 43 (.take 44 (.take 45 (.take 46 (.take 47 (.alt 48 (.alt 49 (.alt 50 (.take 51 (.take 52 (.take 53 (.alt 54 (.alt 55 (.alt 56 (.take 57 (.take 58 (.take 59 .done))) .done) .done) (.alt 55 (.alt 54 (.alt 56 (.take 57 (.take 58 (.take 59 .done))) .done) .done) .done))))) .done) .done) (.alt 49 (.alt 48 (.alt 50 (.take 51 (.take 52 (.take 53 (.alt 54 (.alt 55 (.alt 56 (.take 57 (.take 58 (.take 59 .done))) .done) .done) (.alt 55 (.alt 54 (.alt 56 (.take 57 (.take 58 (.take 59 .done))) .done) .done) .done))))) .done) .done) .done)))))))))))))))))))))))))))) .done)) .done) (.alt 19 (.alt 18 (.take 20 (.alt 21 (.take 22 (.take 23 (.take 24 (.take 25 (.take 26 (.take 27 (.take 28 (.take 29 (.take 30 (.take 31 (.take 32 (.take 33 (.take 34 (.take 35 (.take 36 (.take 37 (.take 38 (.take 39 (.take 40 (.take 41 (.take 42 (.take 43 (.take 44 (.take 45 (.take 46 (.take 47 (.alt 48 (.alt 49 (.alt 50 (.take 51 (.take 52 (.take 53 (.alt 54 (.alt 55 (.alt 56 (.take 57 (.take 58 (.take 59 .done))) .done) .done) (.alt 55 (.alt 54 (.alt 56 (.take 57 (.take 58 (.take 59 .done))) .done) .done) .done))))) .done) .done) (.alt 49 (.alt 48 (.alt 50 (.take 51 (.take 52 (.take 53 (.alt 54 (.alt 55 (.alt 56 (.take 57 (.take 58 (.take 59 .done))) .done) .done) (.alt 55 (.alt 54 (.alt 56 (.take 57 (.take 58 (.take 59 .done))) .done) .done) .done))))) .done) .done) .done)))))))))))))))))))))))))))) .done)) .done) .done))))))))) .done) .done) .done))))))))) (Exists.intro [] (And.intro rfl ?_))
    refine condI hF (fun hF => ?_) (fun hF => ?_)
    · refine gdYT ?_
      refine condT ?_
      refine condI hF (fun hF => ?_) (fun hF => ?_)
      · refine And.intro trivial ?_
        refine gdYT ?_
        refine And.intro trivial ?_
        refine gdYT ?_
        obtain ⟨q11_9, hq11_9, hF⟩ := bindE hF
        refine Or.inl (And.intro f22_in (callI C22 ((3 : Int), [(1 : Int), (4 : Int), (2 : Int), (5 : Int), (3 : Int), (6 : Int)]) q11_9 [] false C22_holds hq11_9 rfl rfl ?_))
        refine (And.intro rfl (And.intro rfl (And.intro (fun h => nomatch h) (And.intro rfl (And.intro rfl (And.intro trivial (And.intro trivial ?_)))))))
        refine And.intro trivial ?_
        refine gdYT ?_
        obtain ⟨q11_10, hq11_10, hF⟩ := bindE hF
        refine Or.inl (And.intro f19_in (callI C19 ((r3.2.1, r3.2.2), (q11_9.2, q11_9.1)) q11_10 [] true C19_holds hq11_10 rfl rfl ?_))
        refine (And.intro rfl (And.intro rfl (And.intro rfl (And.intro rfl (And.intro (fun _ => rfl) (And.intro rfl (And.intro rfl (And.intro trivial (And.intro trivial ?_)))))))))
        refine condT ?_
        refine condI hF (fun hF => ?_) (fun hF => ?_)
        · refine gdYT ?_
          refine condT ?_
          refine condI hF (fun hF => ?_) (fun hF => ?_)
          · refine And.intro (And.intro trivial ?_) ?_
            · refine gdYT ?_
              refine And.intro trivial ?_
              refine gdYT ?_
              refine gdYT ?_
              refine And.intro trivial ?_
              refine gdYT ?_
              obtain ⟨q11_21, hq11_21, hF⟩ := bindE hF
              refine Or.inl (And.intro f19_in (callI C19 ((r4.2.1, r4.2.2), ([(2 : Int)], [(6 : Int), (15 : Int)])) q11_21 [] true C19_holds hq11_21 rfl rfl ?_))
              refine (And.intro rfl (And.intro rfl (And.intro rfl (And.intro rfl (And.intro (fun _ => rfl) (And.intro rfl (And.intro rfl (And.intro trivial (And.intro trivial ?_)))))))))
              refine condT ?_
              refine condI hF (fun hF => ?_) (fun hF => ?_)
              · refine gdYT ?_
                refine condT ?_
                refine condI hF (fun hF => ?_) (fun hF => ?_)
                · refine gdYT ?_
                  refine condT ?_
                  refine condI hF (fun hF => ?_) (fun hF => ?_)
                  · refine gdYT ?_
                    refine condT ?_
                    refine condI hF (fun hF => ?_) (fun hF => ?_)
                    · refine gdYT ?_
                      refine condT ?_
                      refine condI hF (fun hF => ?_) (fun hF => ?_)
                      · refine gdYT ?_
                        refine condT ?_
                        refine condI hF (fun hF => ?_) (fun hF => ?_)
                        · refine gdYT ?_
                          refine condT ?_
                          refine And.intro (And.intro trivial ?_) ?_
                          · refine condI hF (fun hF => ?_) (fun hF => ?_)
                            · refine And.intro trivial ?_
                              refine gdYT ?_
                              refine And.intro trivial ?_
                              refine gdYT ?_
                              obtain ⟨q11_50, hq11_50, hF⟩ := bindE hF
                              have hq11_50 : C14.F ([(-9223372036854775808 : Int), (-9223372036854775808 : Int)], [(-9223372036854775808 : Int), (-9223372036854775808 : Int)]) = some q11_50 := hq11_50
                              refine Or.inl (And.intro f14_in (callI C14 _ q11_50 [] true C14_holds hq11_50 rfl rfl ?_))
                              refine (And.intro rfl (And.intro rfl (And.intro (fun _ => rfl) (And.intro rfl (And.intro rfl (And.intro trivial (And.intro trivial ?_)))))))
                              refine gdYT ?_
                              refine condT ?_
                              refine And.intro (And.intro trivial ?_) ?_
                              · refine condI hF (fun hF => ?_) (fun hF => ?_)
                                · refine And.intro trivial ?_
                                  refine gdYT ?_
                                  refine And.intro trivial ?_
                                  refine gdYT ?_
                                  obtain ⟨q11_56, hq11_56, hF⟩ := bindE hF
                                  refine Or.inl (And.intro f14_in (callI C14 ([(1 : Int), (1 : Int)], [(2147483648 : Int), (2147483648 : Int)]) q11_56 [] true C14_holds hq11_56 rfl rfl ?_))
                                  refine (And.intro rfl (And.intro rfl (And.intro (fun _ => rfl) (And.intro rfl (And.intro rfl (And.intro trivial (And.intro trivial ?_)))))))
                                  refine gdYT ?_
                                  refine condT ?_
                                  have hy := someE hF
                                  subst hy
                                  refine And.intro rfl (Exists.intro [] (Exists.intro [] (And.intro rfl (And.intro rfl (And.intro trivial trivial)))))
                                · refine And.intro trivial ?_
                                  refine gdNT ?_
                                  refine And.intro trivial ?_
                                  refine gdNT ?_
                                  refine gdNT ?_
                                  refine condF ?_
                                  have hy := someE hF
                                  subst hy
                                  refine And.intro rfl (Exists.intro [] (Exists.intro [] (And.intro rfl (And.intro rfl (And.intro trivial trivial)))))
                              · refine condI hF (fun hF => ?_) (fun hF => ?_)
                                · refine And.intro trivial ?_
                                  refine gdYT ?_
                                  refine And.intro trivial ?_
                                  refine gdYT ?_
                                  obtain ⟨q11_56, hq11_56, hF⟩ := bindE hF
                                  refine Or.inl (And.intro f14_in (callI C14 ([(1 : Int), (1 : Int)], [(2147483648 : Int), (2147483648 : Int)]) q11_56 [] true C14_holds hq11_56 rfl rfl ?_))
                                  refine (And.intro rfl (And.intro rfl (And.intro (fun _ => rfl) (And.intro rfl (And.intro rfl (And.intro trivial (And.intro trivial ?_)))))))
                                  refine gdYT ?_
                                  refine condT ?_
                                  have hy := someE hF
                                  subst hy
                                  refine And.intro rfl (Exists.intro [] (Exists.intro [] (And.intro rfl (And.intro rfl (And.intro trivial trivial)))))
                                · refine And.intro trivial ?_
                                  refine gdNT ?_
                                  refine And.intro trivial ?_
                                  refine gdNT ?_
                                  refine gdNT ?_
                                  refine condF ?_
                                  have hy := someE hF
                                  subst hy
                                  refine And.intro rfl (Exists.intro [] (Exists.intro [] (And.intro rfl (And.intro rfl (And.intro trivial trivial)))))
                            · refine And.intro trivial ?_
                              refine gdNT ?_
                              refine And.intro trivial ?_
                              refine gdNT ?_
                              refine gdNT ?_
                              refine condF ?_
                              refine And.intro (And.intro trivial ?_) ?_
                              · refine gdNT ?_
                                refine And.intro trivial ?_
                                refine gdNT ?_
                                refine And.intro trivial ?_
                                refine gdNT ?_
                                refine gdNT ?_
                                refine condF ?_
                                have hy := someE hF
                                subst hy
                                refine And.intro rfl (Exists.intro [] (Exists.intro [] (And.intro rfl (And.intro rfl (And.intro trivial trivial)))))
                              · refine gdNT ?_
                                refine And.intro trivial ?_
                                refine gdNT ?_
                                refine And.intro trivial ?_
                                refine gdNT ?_
                                refine gdNT ?_
                                refine condF ?_
                                have hy := someE hF
                                subst hy
                                refine And.intro rfl (Exists.intro [] (Exists.intro [] (And.intro rfl (And.intro rfl (And.intro trivial trivial)))))
                          · refine condI hF (fun hF => ?_) (fun hF => ?_)
                            · refine And.intro trivial ?_
                              refine gdYT ?_
                              refine And.intro trivial ?_
                              refine gdYT ?_
                              obtain ⟨q11_50, hq11_50, hF⟩ := bindE hF
                              have hq11_50 : C14.F ([(-9223372036854775808 : Int), (-9223372036854775808 : Int)], [(-9223372036854775808 : Int), (-9223372036854775808 : Int)]) = some q11_50 := hq11_50
                              refine Or.inl (And.intro f14_in (callI C14 _ q11_50 [] true C14_holds hq11_50 rfl rfl ?_))
                              refine (And.intro rfl (And.intro rfl (And.intro (fun _ => rfl) (And.intro rfl (And.intro rfl (And.intro trivial (And.intro trivial ?_)))))))
                              refine gdYT ?_
                              refine condT ?_
                              refine And.intro (And.intro trivial ?_) ?_
                              · refine condI hF (fun hF => ?_) (fun hF => ?_)
                                · refine And.intro trivial ?_
                                  refine gdYT ?_
                                  refine And.intro trivial ?_
                                  refine gdYT ?_
                                  obtain ⟨q11_56, hq11_56, hF⟩ := bindE hF
                                  refine Or.inl (And.intro f14_in (callI C14 ([(1 : Int), (1 : Int)], [(2147483648 : Int), (2147483648 : Int)]) q11_56 [] true C14_holds hq11_56 rfl rfl ?_))
                                  refine (And.intro rfl (And.intro rfl (And.intro (fun _ => rfl) (And.intro rfl (And.intro rfl (And.intro trivial (And.intro trivial ?_)))))))
                                  refine gdYT ?_
                                  refine condT ?_
                                  have hy := someE hF
                                  subst hy
                                  refine And.intro rfl (Exists.intro [] (Exists.intro [] (And.intro rfl (And.intro rfl (And.intro trivial trivial)))))
                                · refine And.intro trivial ?_
                                  refine gdNT ?_
                                  refine And.intro trivial ?_
                                  refine gdNT ?_
                                  refine gdNT ?_
                                  refine condF ?_
                                  have hy := someE hF
                                  subst hy
                                  refine And.intro rfl (Exists.intro [] (Exists.intro [] (And.intro rfl (And.intro rfl (And.intro trivial trivial)))))
                              · refine condI hF (fun hF => ?_) (fun hF => ?_)
                                · refine And.intro trivial ?_
                                  refine gdYT ?_
                                  refine And.intro trivial ?_
                                  refine gdYT ?_
                                  obtain ⟨q11_56, hq11_56, hF⟩ := bindE hF
                                  refine Or.inl (And.intro f14_in (callI C14 ([(1 : Int), (1 : Int)], [(2147483648 : Int), (2147483648 : Int)]) q11_56 [] true C14_holds hq11_56 rfl rfl ?_))
                                  refine (And.intro rfl (And.intro rfl (And.intro (fun _ => rfl) (And.intro rfl (And.intro rfl (And.intro trivial (And.intro trivial ?_)))))))
                                  refine gdYT ?_
                                  refine condT ?_
                                  have hy := someE hF
                                  subst hy
                                  refine And.intro rfl (Exists.intro [] (Exists.intro [] (And.intro rfl (And.intro rfl (And.intro trivial trivial)))))
                                · refine And.intro trivial ?_
                                  refine gdNT ?_
                                  refine And.intro trivial ?_
                                  refine gdNT ?_
                                  refine gdNT ?_
                                  refine condF ?_
                                  have hy := someE hF
                                  subst hy
                                  refine And.intro rfl (Exists.intro [] (Exists.intro [] (And.intro rfl (And.intro rfl (And.intro trivial trivial)))))
                            · refine And.intro trivial ?_
                              refine gdNT ?_
                              refine And.intro trivial ?_
                              refine gdNT ?_
                              refine gdNT ?_
                              refine condF ?_
                              refine And.intro (And.intro trivial ?_) ?_
                              · refine gdNT ?_
                                refine And.intro trivial ?_
                                refine gdNT ?_
                                refine And.intro trivial ?_
                                refine gdNT ?_
                                refine gdNT ?_
                                refine condF ?_
                                have hy := someE hF
                                subst hy
                                refine And.intro rfl (Exists.intro [] (Exists.intro [] (And.intro rfl (And.intro rfl (And.intro trivial trivial)))))
                              · refine gdNT ?_
                                refine And.intro trivial ?_
                                refine gdNT ?_
                                refine And.intro trivial ?_
                                refine gdNT ?_
                                refine gdNT ?_
                                refine condF ?_
                                have hy := someE hF
                                subst hy
                                refine And.intro rfl (Exists.intro [] (Exists.intro [] (And.intro rfl (And.intro rfl (And.intro trivial trivial)))))
                        · refine gdNT ?_
                          refine condF ?_
                          refine And.intro (And.intro trivial ?_) ?_
                          · refine gdNT ?_
                            refine And.intro trivial ?_
                            refine gdNT ?_
                            refine And.intro trivial ?_
                            refine gdNT ?_
                            refine gdNT ?_
                            refine condF ?_
                            refine And.intro (And.intro trivial ?_) ?_
                            · refine gdNT ?_
                              refine And.intro trivial ?_
                              refine gdNT ?_
                              refine And.intro trivial ?_
                              refine gdNT ?_
                              refine gdNT ?_
                              refine condF ?_
                              have hy := someE hF
                              subst hy
                              refine And.intro rfl (Exists.intro [] (Exists.intro [] (And.intro rfl (And.intro rfl (And.intro trivial trivial)))))
                            · refine gdNT ?_
                              refine And.intro trivial ?_
                              refine gdNT ?_
                              refine And.intro trivial ?_
                              refine gdNT ?_
                              refine gdNT ?_
                              refine condF ?_
                              have hy := someE hF
                              subst hy
                              refine And.intro rfl (Exists.intro [] (Exists.intro [] (And.intro rfl (And.intro rfl (And.intro trivial trivial)))))
                          · refine gdNT ?_
                            refine And.intro trivial ?_
                            refine gdNT ?_
                            refine And.intro trivial ?_
                            refine gdNT ?_
                            refine gdNT ?_
                            refine condF ?_
                            refine And.intro (And.intro trivial ?_) ?_
                            · refine gdNT ?_
                              refine And.intro trivial ?_
                              refine gdNT ?_
                              refine And.intro trivial ?_
                              refine gdNT ?_
                              refine gdNT ?_
                              refine condF ?_
                              have hy := someE hF
                              subst hy
                              refine And.intro rfl (Exists.intro [] (Exists.intro [] (And.intro rfl (And.intro rfl (And.intro trivial trivial)))))
                            · refine gdNT ?_
                              refine And.intro trivial ?_
                              refine gdNT ?_
                              refine And.intro trivial ?_
                              refine gdNT ?_
                              refine gdNT ?_
                              refine condF ?_
                              have hy := someE hF
                              subst hy
                              refine And.intro rfl (Exists.intro [] (Exists.intro [] (And.intro rfl (And.intro rfl (And.intro trivial trivial)))))
                      · refine gdNT ?_
                        refine condF ?_
                        refine gdNT ?_
                        refine gdNT ?_
                        refine condF ?_
                        refine And.intro (And.intro trivial ?_) ?_
                        · refine gdNT ?_
                          refine And.intro trivial ?_
                          refine gdNT ?_
                          refine And.intro trivial ?_
                          refine gdNT ?_
                          refine gdNT ?_
                          refine condF ?_
                          refine And.intro (And.intro trivial ?_) ?_
                          · refine gdNT ?_
                            refine And.intro trivial ?_
                            refine gdNT ?_
                            refine And.intro trivial ?_
                            refine gdNT ?_
                            refine gdNT ?_
                            refine condF ?_
                            have hy := someE hF
                            subst hy
                            refine And.intro rfl (Exists.intro [] (Exists.intro [] (And.intro rfl (And.intro rfl (And.intro trivial trivial)))))
                          · refine gdNT ?_
                            refine And.intro trivial ?_
                            refine gdNT ?_
                            refine And.intro trivial ?_
                            refine gdNT ?_
                            refine gdNT ?_
                            refine condF ?_
                            have hy := someE hF
                            subst hy
                            refine And.intro rfl (Exists.intro [] (Exists.intro [] (And.intro rfl (And.intro rfl (And.intro trivial trivial)))))
                        · refine gdNT ?_
                          refine And.intro trivial ?_
                          refine gdNT ?_
                          refine And.intro trivial ?_
                          refine gdNT ?_
                          refine gdNT ?_
                          refine condF ?_
                          refine And.intro (And.intro trivial ?_) ?_
                          · refine gdNT ?_
                            refine And.intro trivial ?_
                            refine gdNT ?_
                            refine And.intro trivial ?_
                            refine gdNT ?_
                            refine gdNT ?_
                            refine condF ?_
                            have hy := someE hF
                            subst hy
                            refine And.intro rfl (Exists.intro [] (Exists.intro [] (And.intro rfl (And.intro rfl (And.intro trivial trivial)))))
                          · refine gdNT ?_
                            refine And.intro trivial ?_
                            refine gdNT ?_
                            refine And.intro trivial ?_
                            refine gdNT ?_
                            refine gdNT ?_
                            refine condF ?_
                            have hy := someE hF
                            subst hy
                            refine And.intro rfl (Exists.intro [] (Exists.intro [] (And.intro rfl (And.intro rfl (And.intro trivial trivial)))))
                    · refine gdNT ?_
                      refine condF ?_
                      refine gdNT ?_
                      refine gdNT ?_
                      refine condF ?_
                      refine gdNT ?_
                      refine gdNT ?_
                      refine condF ?_
                      refine And.intro (And.intro trivial ?_) ?_
                      · refine gdNT ?_
                        refine And.intro trivial ?_
                        refine gdNT ?_
                        refine And.intro trivial ?_
                        refine gdNT ?_
                        refine gdNT ?_
                        refine condF ?_
                        refine And.intro (And.intro trivial ?_) ?_
                        · refine gdNT ?_
                          refine And.intro trivial ?_
                          refine gdNT ?_
                          refine And.intro trivial ?_
                          refine gdNT ?_
                          refine gdNT ?_
                          refine condF ?_
                          have hy := someE hF
                          subst hy
                          refine And.intro rfl (Exists.intro [] (Exists.intro [] (And.intro rfl (And.intro rfl (And.intro trivial trivial)))))
                        · refine gdNT ?_
                          refine And.intro trivial ?_
                          refine gdNT ?_
                          refine And.intro trivial ?_
                          refine gdNT ?_
                          refine gdNT ?_
                          refine condF ?_
                          have hy := someE hF
                          subst hy
                          refine And.intro rfl (Exists.intro [] (Exists.intro [] (And.intro rfl (And.intro rfl (And.intro trivial trivial)))))
                      · refine gdNT ?_
                        refine And.intro trivial ?_
                        refine gdNT ?_
                        refine And.intro trivial ?_
                        refine gdNT ?_
                        refine gdNT ?_
                        refine condF ?_
                        refine And.intro (And.intro trivial ?_) ?_
                        · refine gdNT ?_
                          refine And.intro trivial ?_
                          refine gdNT ?_
                          refine And.intro trivial ?_
                          refine gdNT ?_
                          refine gdNT ?_
                          refine condF ?_
                          have hy := someE hF
                          subst hy
                          refine And.intro rfl (Exists.intro [] (Exists.intro [] (And.intro rfl (And.intro rfl (And.intro trivial trivial)))))
                        · refine gdNT ?_
                          refine And.intro trivial ?_
                          refine gdNT ?_
                          refine And.intro trivial ?_
                          refine gdNT ?_
                          refine gdNT ?_
                          refine condF ?_
                          have hy := someE hF
                          subst hy
                          refine And.intro rfl (Exists.intro [] (Exists.intro [] (And.intro rfl (And.intro rfl (And.intro trivial trivial)))))
                  · refine gdNT ?_
                    refine condF ?_
                    refine gdNT ?_
                    refine gdNT ?_
                    refine condF ?_
                    refine gdNT ?_
                    refine gdNT ?_
                    refine condF ?_
                    refine gdNT ?_
                    refine gdNT ?_
                    refine condF ?_
                    refine And.intro (And.intro trivial ?_) ?_
                    · refine gdNT ?_
                      refine And.intro trivial ?_
                      refine gdNT ?_
                      refine And.intro trivial ?_
                      refine gdNT ?_
                      refine gdNT ?_
                      refine condF ?_
                      refine And.intro (And.intro trivial ?_) ?_
                      · refine gdNT ?_
                        refine And.intro trivial ?_
                        refine gdNT ?_
                        refine And.intro trivial ?_
                        refine gdNT ?_
                        refine gdNT ?_
                        refine condF ?_
                        have hy := someE hF
                        subst hy
                        refine And.intro rfl (Exists.intro [] (Exists.intro [] (And.intro rfl (And.intro rfl (And.intro trivial trivial)))))
                      · refine gdNT ?_
                        refine And.intro trivial ?_
                        refine gdNT ?_
                        refine And.intro trivial ?_
                        refine gdNT ?_
                        refine gdNT ?_
                        refine condF ?_
                        have hy := someE hF
                        subst hy
                        refine And.intro rfl (Exists.intro [] (Exists.intro [] (And.intro rfl (And.intro rfl (And.intro trivial trivial)))))
                    · refine gdNT ?_
                      refine And.intro trivial ?_
                      refine gdNT ?_
                      refine And.intro trivial ?_
                      refine gdNT ?_
                      refine gdNT ?_
                      refine condF ?_
                      refine And.intro (And.intro trivial ?_) ?_
                      · refine gdNT ?_
                        refine And.intro trivial ?_
                        refine gdNT ?_
                        refine And.intro trivial ?_
                        refine gdNT ?_
                        refine gdNT ?_
                        refine condF ?_
                        have hy := someE hF
                        subst hy
                        refine And.intro rfl (Exists.intro [] (Exists.intro [] (And.intro rfl (And.intro rfl (And.intro trivial trivial)))))
                      · refine gdNT ?_
                        refine And.intro trivial ?_
                        refine gdNT ?_
                        refine And.intro trivial ?_
                        refine gdNT ?_
                        refine gdNT ?_
                        refine condF ?_
                        have hy := someE hF
                        subst hy
                        refine And.intro rfl (Exists.intro [] (Exists.intro [] (And.intro rfl (And.intro rfl (And.intro trivial trivial)))))
                · refine gdNT ?_
                  refine condF ?_
                  refine gdNT ?_
                  refine gdNT ?_
                  refine condF ?_
                  refine gdNT ?_
                  refine gdNT ?_
                  refine condF ?_
                  refine gdNT ?_
                  refine gdNT ?_
                  refine condF ?_
                  refine gdNT ?_
                  refine gdNT ?_
                  refine condF ?_
                  refine And.intro (And.intro trivial ?_) ?_
                  · refine gdNT ?_
                    refine And.intro trivial ?_
                    refine gdNT ?_
                    refine And.intro trivial ?_
                    refine gdNT ?_
                    refine gdNT ?_
                    refine condF ?_
                    refine And.intro (And.intro trivial ?_) ?_
                    · refine gdNT ?_
                      refine And.intro trivial ?_
                      refine gdNT ?_
                      refine And.intro trivial ?_
                      refine gdNT ?_
                      refine gdNT ?_
                      refine condF ?_
                      have hy := someE hF
                      subst hy
                      refine And.intro rfl (Exists.intro [] (Exists.intro [] (And.intro rfl (And.intro rfl (And.intro trivial trivial)))))
                    · refine gdNT ?_
                      refine And.intro trivial ?_
                      refine gdNT ?_
                      refine And.intro trivial ?_
                      refine gdNT ?_
                      refine gdNT ?_
                      refine condF ?_
                      have hy := someE hF
                      subst hy
                      refine And.intro rfl (Exists.intro [] (Exists.intro [] (And.intro rfl (And.intro rfl (And.intro trivial trivial)))))
                  · refine gdNT ?_
                    refine And.intro trivial ?_
                    refine gdNT ?_
                    refine And.intro trivial ?_
                    refine gdNT ?_
                    refine gdNT ?_
                    refine condF ?_
                    refine And.intro (And.intro trivial ?_) ?_
                    · refine gdNT ?_
                      refine And.intro trivial ?_
                      refine gdNT ?_
                      refine And.intro trivial ?_
                      refine gdNT ?_
                      refine gdNT ?_
                      refine condF ?_
                      have hy := someE hF
                      subst hy
                      refine And.intro rfl (Exists.intro [] (Exists.intro [] (And.intro rfl (And.intro rfl (And.intro trivial trivial)))))
                    · refine gdNT ?_
                      refine And.intro trivial ?_
                      refine gdNT ?_
                      refine And.intro trivial ?_
                      refine gdNT ?_
                      refine gdNT ?_
                      refine condF ?_
                      have hy := someE hF
                      subst hy
                      refine And.intro rfl (Exists.intro [] (Exists.intro [] (And.intro rfl (And.intro rfl (And.intro trivial trivial)))))
              · refine gdNT ?_
                refine condF ?_
                refine gdNT ?_
                refine gdNT ?_
                refine condF ?_
                refine gdNT ?_
                refine gdNT ?_
                refine condF ?_
                refine gdNT ?_
                refine gdNT ?_
                refine condF ?_
                refine gdNT ?_
                refine gdNT ?_
                refine condF ?_
                refine gdNT ?_
                refine gdNT ?_
                refine condF ?_
                refine And.intro (And.intro trivial ?_) ?_
                · refine gdNT ?_
                  refine And.intro trivial ?_
                  refine gdNT ?_
                  refine And.intro trivial ?_
                  refine gdNT ?_
                  refine gdNT ?_
                  refine condF ?_
                  refine And.intro (And.intro trivial ?_) ?_
                  · refine gdNT ?_
                    refine And.intro trivial ?_
                    refine gdNT ?_
                    refine And.intro trivial ?_
                    refine gdNT ?_
                    refine gdNT ?_
                    refine condF ?_
                    have hy := someE hF
                    subst hy
                    refine And.intro rfl (Exists.intro [] (Exists.intro [] (And.intro rfl (And.intro rfl (And.intro trivial trivial)))))
                  · refine gdNT ?_
                    refine And.intro trivial ?_
                    refine gdNT ?_
                    refine And.intro trivial ?_
                    refine gdNT ?_
                    refine gdNT ?_
                    refine condF ?_
                    have hy := someE hF
                    subst hy
                    refine And.intro rfl (Exists.intro [] (Exists.intro [] (And.intro rfl (And.intro rfl (And.intro trivial trivial)))))
                · refine gdNT ?_
                  refine And.intro trivial ?_
                  refine gdNT ?_
                  refine And.intro trivial ?_
                  refine gdNT ?_
                  refine gdNT ?_
                  refine condF ?_
                  refine And.intro (And.intro trivial ?_) ?_
                  · refine gdNT ?_
                    refine And.intro trivial ?_
                    refine gdNT ?_
                    refine And.intro trivial ?_
                    refine gdNT ?_
                    refine gdNT ?_
                    refine condF ?_
                    have hy := someE hF
                    subst hy
                    refine And.intro rfl (Exists.intro [] (Exists.intro [] (And.intro rfl (And.intro rfl (And.intro trivial trivial)))))
                  · refine gdNT ?_
                    refine And.intro trivial ?_
                    refine gdNT ?_
                    refine And.intro trivial ?_
                    refine gdNT ?_
                    refine gdNT ?_
                    refine condF ?_
                    have hy := someE hF
                    subst hy
                    refine And.intro rfl (Exists.intro [] (Exists.intro [] (And.intro rfl (And.intro rfl (And.intro trivial trivial)))))
            · refine gdYT ?_
              refine And.intro trivial ?_
              refine gdYT ?_
              refine gdYT ?_
              refine And.intro trivial ?_
              refine gdYT ?_
              obtain ⟨q11_21, hq11_21, hF⟩ := bindE hF
              refine Or.inl (And.intro f19_in (callI C19 ((r4.2.1, r4.2.2), ([(2 : Int)], [(6 : Int), (15 : Int)])) q11_21 [] true C19_holds hq11_21 rfl rfl ?_))
              refine (And.intro rfl (And.intro rfl (And.intro rfl (And.intro rfl (And.intro (fun _ => rfl) (And.intro rfl (And.intro rfl (And.intro trivial (And.intro trivial ?_)))))))))
              refine condT ?_
              refine condI hF (fun hF => ?_) (fun hF => ?_)
              · refine gdYT ?_
                refine condT ?_
                refine condI hF (fun hF => ?_) (fun hF => ?_)
                · refine gdYT ?_
                  refine condT ?_
                  refine condI hF (fun hF => ?_) (fun hF => ?_)
                  · refine gdYT ?_
                    refine condT ?_
                    refine condI hF (fun hF => ?_) (fun hF => ?_)
                    · refine gdYT ?_
                      refine condT ?_
                      refine condI hF (fun hF => ?_) (fun hF => ?_)
                      · refine gdYT ?_
                        refine condT ?_
                        refine condI hF (fun hF => ?_) (fun hF => ?_)
                        · refine gdYT ?_
                          refine condT ?_
                          refine And.intro (And.intro trivial ?_) ?_
                          · refine condI hF (fun hF => ?_) (fun hF => ?_)
                            · refine And.intro trivial ?_
                              refine gdYT ?_
                              refine And.intro trivial ?_
                              refine gdYT ?_
                              obtain ⟨q11_50, hq11_50, hF⟩ := bindE hF
                              have hq11_50 : C14.F ([(-9223372036854775808 : Int), (-9223372036854775808 : Int)], [(-9223372036854775808 : Int), (-9223372036854775808 : Int)]) = some q11_50 := hq11_50
                              refine Or.inl (And.intro f14_in (callI C14 _ q11_50 [] true C14_holds hq11_50 rfl rfl ?_))
                              refine (And.intro rfl (And.intro rfl (And.intro (fun _ => rfl) (And.intro rfl (And.intro rfl (And.intro trivial (And.intro trivial ?_)))))))
                              refine gdYT ?_
                              refine condT ?_
                              refine And.intro (And.intro trivial ?_) ?_
                              · refine condI hF (fun hF => ?_) (fun hF => ?_)
                                · refine And.intro trivial ?_
                                  refine gdYT ?_
                                  refine And.intro trivial ?_
                                  refine gdYT ?_
                                  obtain ⟨q11_56, hq11_56, hF⟩ := bindE hF
                                  refine Or.inl (And.intro f14_in (callI C14 ([(1 : Int), (1 : Int)], [(2147483648 : Int), (2147483648 : Int)]) q11_56 [] true C14_holds hq11_56 rfl rfl ?_))
                                  refine (And.intro rfl (And.intro rfl (And.intro (fun _ => rfl) (And.intro rfl (And.intro rfl (And.intro trivial (And.intro trivial ?_)))))))
                                  refine gdYT ?_
                                  refine condT ?_
                                  have hy := someE hF
                                  subst hy
                                  refine And.intro rfl (Exists.intro [] (Exists.intro [] (And.intro rfl (And.intro rfl (And.intro trivial trivial)))))
                                · refine And.intro trivial ?_
                                  refine gdNT ?_
                                  refine And.intro trivial ?_
                                  refine gdNT ?_
                                  refine gdNT ?_
                                  refine condF ?_
                                  have hy := someE hF
                                  subst hy
                                  refine And.intro rfl (Exists.intro [] (Exists.intro [] (And.intro rfl (And.intro rfl (And.intro trivial trivial)))))
                              · refine condI hF (fun hF => ?_) (fun hF => ?_)
                                · refine And.intro trivial ?_
                                  refine gdYT ?_
                                  refine And.intro trivial ?_
                                  refine gdYT ?_
                                  obtain ⟨q11_56, hq11_56, hF⟩ := bindE hF
                                  refine Or.inl (And.intro f14_in (callI C14 ([(1 : Int), (1 : Int)], [(2147483648 : Int), (2147483648 : Int)]) q11_56 [] true C14_holds hq11_56 rfl rfl ?_))
                                  refine (And.intro rfl (And.intro rfl (And.intro (fun _ => rfl) (And.intro rfl (And.intro rfl (And.intro trivial (And.intro trivial ?_)))))))
                                  refine gdYT ?_
                                  refine condT ?_
                                  have hy := someE hF
                                  subst hy
                                  refine And.intro rfl (Exists.intro [] (Exists.intro [] (And.intro rfl (And.intro rfl (And.intro trivial trivial)))))
                                · refine And.intro trivial ?_
                                  refine gdNT ?_
                                  refine And.intro trivial ?_
                                  refine gdNT ?_
                                  refine gdNT ?_
                                  refine condF ?_
                                  have hy := someE hF
                                  subst hy
                                  refine And.intro rfl (Exists.intro [] (Exists.intro [] (And.intro rfl (And.intro rfl (And.intro trivial trivial)))))
                            · refine And.intro trivial ?_
                              refine gdNT ?_
                              refine And.intro trivial ?_
                              refine gdNT ?_
                              refine gdNT ?_
                              refine condF ?_
                              refine And.intro (And.intro trivial ?_) ?_
                              · refine gdNT ?_
                                refine And.intro trivial ?_
                                refine gdNT ?_
                                refine And.intro trivial ?_
                                refine gdNT ?_
                                refine gdNT ?_
                                refine condF ?_
                                have hy := someE hF
                                subst hy
                                refine And.intro rfl (Exists.intro [] (Exists.intro [] (And.intro rfl (And.intro rfl (And.intro trivial trivial)))))
                              · refine gdNT ?_
                                refine And.intro trivial ?_
                                refine gdNT ?_
                                refine And.intro trivial ?_
                                refine gdNT ?_
                                refine gdNT ?_
                                refine condF ?_
                                have hy := someE hF
                                subst hy
                                refine And.intro rfl (Exists.intro [] (Exists.intro [] (And.intro rfl (And.intro rfl (And.intro trivial trivial)))))
                          · refine condI hF (fun hF => ?_) (fun hF => ?_)
                            · refine And.intro trivial ?_
                              refine gdYT ?_
                              refine And.intro trivial ?_
                              refine gdYT ?_
                              obtain ⟨q11_50, hq11_50, hF⟩ := bindE hF
                              have hq11_50 : C14.F ([(-9223372036854775808 : Int), (-9223372036854775808 : Int)], [(-9223372036854775808 : Int), (-9223372036854775808 : Int)]) = some q11_50 := hq11_50
                              refine Or.inl (And.intro f14_in (callI C14 _ q11_50 [] true C14_holds hq11_50 rfl rfl ?_))
                              refine (And.intro rfl (And.intro rfl (And.intro (fun _ => rfl) (And.intro rfl (And.intro rfl (And.intro trivial (And.intro trivial ?_)))))))
                              refine gdYT ?_
                              refine condT ?_
                              refine And.intro (And.intro trivial ?_) ?_
                              · refine condI hF (fun hF => ?_) (fun hF => ?_)
                                · refine And.intro trivial ?_
                                  refine gdYT ?_
                                  refine And.intro trivial ?_
                                  refine gdYT ?_
                                  obtain ⟨q11_56, hq11_56, hF⟩ := bindE hF
                                  refine Or.inl (And.intro f14_in (callI C14 ([(1 : Int), (1 : Int)], [(2147483648 : Int), (2147483648 : Int)]) q11_56 [] true C14_holds hq11_56 rfl rfl ?_))
                                  refine (And.intro rfl (And.intro rfl (And.intro (fun _ => rfl) (And.intro rfl (And.intro rfl (And.intro trivial (And.intro trivial ?_)))))))
                                  refine gdYT ?_
                                  refine condT ?_
                                  have hy := someE hF
                                  subst hy
                                  refine And.intro rfl (Exists.intro [] (Exists.intro [] (And.intro rfl (And.intro rfl (And.intro trivial trivial)))))
                                · refine And.intro trivial ?_
                                  refine gdNT ?_
                                  refine And.intro trivial ?_
                                  refine gdNT ?_
                                  refine gdNT ?_
                                  refine condF ?_
                                  have hy := someE hF
                                  subst hy
                                  refine And.intro rfl (Exists.intro [] (Exists.intro [] (And.intro rfl (And.intro rfl (And.intro trivial trivial)))))
                              · refine condI hF (fun hF => ?_) (fun hF => ?_)
                                · refine And.intro trivial ?_
                                  refine gdYT ?_
                                  refine And.intro trivial ?_
                                  refine gdYT ?_
                                  obtain ⟨q11_56, hq11_56, hF⟩ := bindE hF
                                  refine Or.inl (And.intro f14_in (callI C14 ([(1 : Int), (1 : Int)], [(2147483648 : Int), (2147483648 : Int)]) q11_56 [] true C14_holds hq11_56 rfl rfl ?_))
                                  refine (And.intro rfl (And.intro rfl (And.intro (fun _ => rfl) (And.intro rfl (And.intro rfl (And.intro trivial (And.intro trivial ?_)))))))
                                  refine gdYT ?_
                                  refine condT ?_
                                  have hy := someE hF
                                  subst hy
                                  refine And.intro rfl (Exists.intro [] (Exists.intro [] (And.intro rfl (And.intro rfl (And.intro trivial trivial)))))
                                · refine And.intro trivial ?_
                                  refine gdNT ?_
                                  refine And.intro trivial ?_
                                  refine gdNT ?_
                                  refine gdNT ?_
                                  refine condF ?_
                                  have hy := someE hF
                                  subst hy
                                  refine And.intro rfl (Exists.intro [] (Exists.intro [] (And.intro rfl (And.intro rfl (And.intro trivial trivial)))))
                            · refine And.intro trivial ?_
                              refine gdNT ?_
                              refine And.intro trivial ?_
                              refine gdNT ?_
                              refine gdNT ?_
                              refine condF ?_
                              refine And.intro (And.intro trivial ?_) ?_
                              · refine gdNT ?_
                                refine And.intro trivial ?_
                                refine gdNT ?_
                                refine And.intro trivial ?_
                                refine gdNT ?_
                                refine gdNT ?_
                                refine condF ?_
                                have hy := someE hF
                                subst hy
                                refine And.intro rfl (Exists.intro [] (Exists.intro [] (And.intro rfl (And.intro rfl (And.intro trivial trivial)))))
                              · refine gdNT ?_
                                refine And.intro trivial ?_
                                refine gdNT ?_
                                refine And.intro trivial ?_
                                refine gdNT ?_
                                refine gdNT ?_
                                refine condF ?_
                                have hy := someE hF
                                subst hy
                                refine And.intro rfl (Exists.intro [] (Exists.intro [] (And.intro rfl (And.intro rfl (And.intro trivial trivial)))))
                        · refine gdNT ?_
                          refine condF ?_
                          refine And.intro (And.intro trivial ?_) ?_
                          · refine gdNT ?_
                            refine And.intro trivial ?_
                            refine gdNT ?_
                            refine And.intro trivial ?_
                            refine gdNT ?_
                            refine gdNT ?_
                            refine condF ?_
                            refine And.intro (And.intro trivial ?_) ?_
                            · refine gdNT ?_
                              refine And.intro trivial ?_
                              refine gdNT ?_
                              refine And.intro trivial ?_
                              refine gdNT ?_
                              refine gdNT ?_
                              refine condF ?_
                              have hy := someE hF
                              subst hy
                              refine And.intro rfl (Exists.intro [] (Exists.intro [] (And.intro rfl (And.intro rfl (And.intro trivial trivial)))))
                            · refine gdNT ?_
                              refine And.intro trivial ?_
                              refine gdNT ?_
                              refine And.intro trivial ?_
                              refine gdNT ?_
                              refine gdNT ?_
                              refine condF ?_
                              have hy := someE hF
                              subst hy
                              refine And.intro rfl (Exists.intro [] (Exists.intro [] (And.intro rfl (And.intro rfl (And.intro trivial trivial)))))
                          · refine gdNT ?_
                            refine And.intro trivial ?_
                            refine gdNT ?_
                            refine And.intro trivial ?_
                            refine gdNT ?_
                            refine gdNT ?_
                            refine condF ?_
                            refine And.intro (And.intro trivial ?_) ?_
                            · refine gdNT ?_
                              refine And.intro trivial ?_
                              refine gdNT ?_
                              refine And.intro trivial ?_
                              refine gdNT ?_
                              refine gdNT ?_
                              refine condF ?_
                              have hy := someE hF
                              subst hy
                              refine And.intro rfl (Exists.intro [] (Exists.intro [] (And.intro rfl (And.intro rfl (And.intro trivial trivial)))))
                            · refine gdNT ?_
                              refine And.intro trivial ?_
                              refine gdNT ?_
                              refine And.intro trivial ?_
                              refine gdNT ?_
                              refine gdNT ?_
                              refine condF ?_
                              have hy := someE hF
                              subst hy
                              refine And.intro rfl (Exists.intro [] (Exists.intro [] (And.intro rfl (And.intro rfl (And.intro trivial trivial)))))
                      · refine gdNT ?_
                        refine condF ?_
                        refine gdNT ?_
                        refine gdNT ?_
                        refine condF ?_
                        refine And.intro (And.intro trivial ?_) ?_
                        · refine gdNT ?_
                          refine And.intro trivial ?_
                          refine gdNT ?_
                          refine And.intro trivial ?_
                          refine gdNT ?_
                          refine gdNT ?_
                          refine condF ?_
                          refine And.intro (And.intro trivial ?_) ?_
                          · refine gdNT ?_
                            refine And.intro trivial ?_
                            refine gdNT ?_
                            refine And.intro trivial ?_
                            refine gdNT ?_
                            refine gdNT ?_
                            refine condF ?_
                            have hy := someE hF
                            subst hy
                            refine And.intro rfl (Exists.intro [] (Exists.intro [] (And.intro rfl (And.intro rfl (And.intro trivial trivial)))))
                          · refine gdNT ?_
                            refine And.intro trivial ?_
                            refine gdNT ?_
                            refine And.intro trivial ?_
                            refine gdNT ?_
                            refine gdNT ?_
                            refine condF ?_
                            have hy := someE hF
                            subst hy
                            refine And.intro rfl (Exists.intro [] (Exists.intro [] (And.intro rfl (And.intro rfl (And.intro trivial trivial)))))
                        · refine gdNT ?_
                          refine And.intro trivial ?_
                          refine gdNT ?_
                          refine And.intro trivial ?_
                          refine gdNT ?_
                          refine gdNT ?_
                          refine condF ?_
                          refine And.intro (And.intro trivial ?_) ?_
                          · refine gdNT ?_
                            refine And.intro trivial ?_
                            refine gdNT ?_
                            refine And.intro trivial ?_
                            refine gdNT ?_
                            refine gdNT ?_
                            refine condF ?_
                            have hy := someE hF
                            subst hy
                            refine And.intro rfl (Exists.intro [] (Exists.intro [] (And.intro rfl (And.intro rfl (And.intro trivial trivial)))))
                          · refine gdNT ?_
                            refine And.intro trivial ?_
                            refine gdNT ?_
                            refine And.intro trivial ?_
                            refine gdNT ?_
                            refine gdNT ?_
                            refine condF ?_
                            have hy := someE hF
                            subst hy
                            refine And.intro rfl (Exists.intro [] (Exists.intro [] (And.intro rfl (And.intro rfl (And.intro trivial trivial)))))
                    · refine gdNT ?_
                      refine condF ?_
                      refine gdNT ?_
                      refine gdNT ?_
                      refine condF ?_
                      refine gdNT ?_
                      refine gdNT ?_
                      refine condF ?_
                      refine And.intro (And.intro trivial ?_) ?_
                      · refine gdNT ?_
                        refine And.intro trivial ?_
                        refine gdNT ?_
                        refine And.intro trivial ?_
                        refine gdNT ?_
                        refine gdNT ?_
                        refine condF ?_
                        refine And.intro (And.intro trivial ?_) ?_
                        · refine gdNT ?_
                          refine And.intro trivial ?_
                          refine gdNT ?_
                          refine And.intro trivial ?_
                          refine gdNT ?_
                          refine gdNT ?_
                          refine condF ?_
                          have hy := someE hF
                          subst hy
                          refine And.intro rfl (Exists.intro [] (Exists.intro [] (And.intro rfl (And.intro rfl (And.intro trivial trivial)))))
                        · refine gdNT ?_
                          refine And.intro trivial ?_
                          refine gdNT ?_
                          refine And.intro trivial ?_
                          refine gdNT ?_
                          refine gdNT ?_
                          refine condF ?_
                          have hy := someE hF
                          subst hy
                          refine And.intro rfl (Exists.intro [] (Exists.intro [] (And.intro rfl (And.intro rfl (And.intro trivial trivial)))))
                      · refine gdNT ?_
                        refine And.intro trivial ?_
                        refine gdNT ?_
                        refine And.intro trivial ?_
                        refine gdNT ?_
                        refine gdNT ?_
                        refine condF ?_
                        refine And.intro (And.intro trivial ?_) ?_
                        · refine gdNT ?_
                          refine And.intro trivial ?_
                          refine gdNT ?_
                          refine And.intro trivial ?_
                          refine gdNT ?_
                          refine gdNT ?_
                          refine condF ?_
                          have hy := someE hF
                          subst hy
                          refine And.intro rfl (Exists.intro [] (Exists.intro [] (And.intro rfl (And.intro rfl (And.intro trivial trivial)))))
                        · refine gdNT ?_
                          refine And.intro trivial ?_
                          refine gdNT ?_
                          refine And.intro trivial ?_
                          refine gdNT ?_
                          refine gdNT ?_
                          refine condF ?_
                          have hy := someE hF
                          subst hy
                          refine And.intro rfl (Exists.intro [] (Exists.intro [] (And.intro rfl (And.intro rfl (And.intro trivial trivial)))))
                  · refine gdNT ?_
                    refine condF ?_
                    refine gdNT ?_
                    refine gdNT ?_
                    refine condF ?_
                    refine gdNT ?_
                    refine gdNT ?_
                    refine condF ?_
                    refine gdNT ?_
                    refine gdNT ?_
                    refine condF ?_
                    refine And.intro (And.intro trivial ?_) ?_
                    · refine gdNT ?_
                      refine And.intro trivial ?_
                      refine gdNT ?_
                      refine And.intro trivial ?_
                      refine gdNT ?_
                      refine gdNT ?_
                      refine condF ?_
                      refine And.intro (And.intro trivial ?_) ?_
                      · refine gdNT ?_
                        refine And.intro trivial ?_
                        refine gdNT ?_
                        refine And.intro trivial ?_
                        refine gdNT ?_
                        refine gdNT ?_
                        refine condF ?_
                        have hy := someE hF
                        subst hy
                        refine And.intro rfl (Exists.intro [] (Exists.intro [] (And.intro rfl (And.intro rfl (And.intro trivial trivial)))))
                      · refine gdNT ?_
                        refine And.intro trivial ?_
                        refine gdNT ?_
                        refine And.intro trivial ?_
                        refine gdNT ?_
                        refine gdNT ?_
                        refine condF ?_
                        have hy := someE hF
                        subst hy
                        refine And.intro rfl (Exists.intro [] (Exists.intro [] (And.intro rfl (And.intro rfl (And.intro trivial trivial)))))
                    · refine gdNT ?_
                      refine And.intro trivial ?_
                      refine gdNT ?_
                      refine And.intro trivial ?_
                      refine gdNT ?_
                      refine gdNT ?_
                      refine condF ?_
                      refine And.intro (And.intro trivial ?_) ?_
                      · refine gdNT ?_
                        refine And.intro trivial ?_
                        refine gdNT ?_
                        refine And.intro trivial ?_
                        refine gdNT ?_
                        refine gdNT ?_
                        refine condF ?_
                        have hy := someE hF
                        subst hy
                        refine And.intro rfl (Exists.intro [] (Exists.intro [] (And.intro rfl (And.intro rfl (And.intro trivial trivial)))))
                      · refine gdNT ?_
                        refine And.intro trivial ?_
                        refine gdNT ?_
                        refine And.intro trivial ?_
                        refine gdNT ?_
                        refine gdNT ?_
                        refine condF ?_
                        have hy := someE hF
                        subst hy
                        refine And.intro rfl (Exists.intro [] (Exists.intro [] (And.intro rfl (And.intro rfl (And.intro trivial trivial)))))
                · refine gdNT ?_
                  refine condF ?_
                  refine gdNT ?_
                  refine gdNT ?_
                  refine condF ?_
                  refine gdNT ?_
                  refine gdNT ?_
                  refine condF ?_
                  refine gdNT ?_
                  refine gdNT ?_
                  refine condF ?_
                  refine gdNT ?_
                  refine gdNT ?_
                  refine condF ?_
                  refine And.intro (And.intro trivial ?_) ?_
                  · refine gdNT ?_
                    refine And.intro trivial ?_
                    refine gdNT ?_
                    refine And.intro trivial ?_
                    refine gdNT ?_
                    refine gdNT ?_
                    refine condF ?_
                    refine And.intro (And.intro trivial ?_) ?_
                    · refine gdNT ?_
                      refine And.intro trivial ?_
                      refine gdNT ?_
                      refine And.intro trivial ?_
                      refine gdNT ?_
                      refine gdNT ?_
                      refine condF ?_
                      have hy := someE hF
                      subst hy
                      refine And.intro rfl (Exists.intro [] (Exists.intro [] (And.intro rfl (And.intro rfl (And.intro trivial trivial)))))
                    · refine gdNT ?_
                      refine And.intro trivial ?_
                      refine gdNT ?_
                      refine And.intro trivial ?_
                      refine gdNT ?_
                      refine gdNT ?_
                      refine condF ?_
                      have hy := someE hF
                      subst hy
                      refine And.intro rfl (Exists.intro [] (Exists.intro [] (And.intro rfl (And.intro rfl (And.intro trivial trivial)))))
                  · refine gdNT ?_
                    refine And.intro trivial ?_
                    refine gdNT ?_
                    refine And.intro trivial ?_
                    refine gdNT ?_
                    refine gdNT ?_
                    refine condF ?_
                    refine And.intro (And.intro trivial ?_) ?_
                    · refine gdNT ?_
                      refine And.intro trivial ?_
                      refine gdNT ?_
                      refine And.intro trivial ?_
                      refine gdNT ?_
                      refine gdNT ?_
                      refine condF ?_
                      have hy := someE hF
                      subst hy
                      refine And.intro rfl (Exists.intro [] (Exists.intro [] (And.intro rfl (And.intro rfl (And.intro trivial trivial)))))
                    · refine gdNT ?_
                      refine And.intro trivial ?_
                      refine gdNT ?_
                      refine And.intro trivial ?_
                      refine gdNT ?_
                      refine gdNT ?_
                      refine condF ?_
                      have hy := someE hF
                      subst hy
                      refine And.intro rfl (Exists.intro [] (Exists.intro [] (And.intro rfl (And.intro rfl (And.intro trivial trivial)))))
              · refine gdNT ?_
                refine condF ?_
                refine gdNT ?_
                refine gdNT ?_
                refine condF ?_
                refine gdNT ?_
                refine gdNT ?_
                refine condF ?_
                refine gdNT ?_
                refine gdNT ?_
                refine condF ?_
                refine gdNT ?_
                refine gdNT ?_
                refine condF ?_
                refine gdNT ?_
                refine gdNT ?_
                refine condF ?_
                refine And.intro (And.intro trivial ?_) ?_
                · refine gdNT ?_
                  refine And.intro trivial ?_
                  refine gdNT ?_
                  refine And.intro trivial ?_
                  refine gdNT ?_
                  refine gdNT ?_
                  refine condF ?_
                  refine And.intro (And.intro trivial ?_) ?_
                  · refine gdNT ?_
                    refine And.intro trivial ?_
                    refine gdNT ?_
                    refine And.intro trivial ?_
                    refine gdNT ?_
                    refine gdNT ?_
                    refine condF ?_
                    have hy := someE hF
                    subst hy
                    refine And.intro rfl (Exists.intro [] (Exists.intro [] (And.intro rfl (And.intro rfl (And.intro trivial trivial)))))
                  · refine gdNT ?_
                    refine And.intro trivial ?_
                    refine gdNT ?_
                    refine And.intro trivial ?_
                    refine gdNT ?_
                    refine gdNT ?_
                    refine condF ?_
                    have hy := someE hF
                    subst hy
                    refine And.intro rfl (Exists.intro [] (Exists.intro [] (And.intro rfl (And.intro rfl (And.intro trivial trivial)))))
                · refine gdNT ?_
                  refine And.intro trivial ?_
                  refine gdNT ?_
                  refine And.intro trivial ?_
                  refine gdNT ?_
                  refine gdNT ?_
                  refine condF ?_
                  refine And.intro (And.intro trivial ?_) ?_
                  · refine gdNT ?_
                    refine And.intro trivial ?_
                    refine gdNT ?_
                    refine And.intro trivial ?_
                    refine gdNT ?_
                    refine gdNT ?_
                    refine condF ?_
                    have hy := someE hF
                    subst hy
                    refine And.intro rfl (Exists.intro [] (Exists.intro [] (And.intro rfl (And.intro rfl (And.intro trivial trivial)))))
                  · refine gdNT ?_
                    refine And.intro trivial ?_
                    refine gdNT ?_
                    refine And.intro trivial ?_
                    refine gdNT ?_
                    refine gdNT ?_
                    refine condF ?_
                    have hy := someE hF
                    subst hy
                    refine And.intro rfl (Exists.intro [] (Exists.intro [] (And.intro rfl (And.intro rfl (And.intro trivial trivial)))))
          · refine And.intro (And.intro trivial ?_) ?_
            · refine gdNT ?_
              refine And.intro trivial ?_
              refine gdNT ?_
              refine gdNT ?_
              refine And.intro trivial ?_
              refine gdNT ?_
              refine condF ?_
              refine gdNT ?_
              refine gdNT ?_
              refine condF ?_
              refine gdNT ?_
              refine gdNT ?_
              refine condF ?_
              refine gdNT ?_
              refine gdNT ?_
              refine condF ?_
              refine gdNT ?_
              refine gdNT ?_
              refine condF ?_
              refine gdNT ?_
              refine gdNT ?_
              refine condF ?_
              refine gdNT ?_
              refine gdNT ?_
              refine condF ?_
              refine And.intro (And.intro trivial ?_) ?_
              · refine gdNT ?_
                refine And.intro trivial ?_
                refine gdNT ?_
                refine And.intro trivial ?_
                refine gdNT ?_
                refine gdNT ?_
                refine condF ?_
                refine And.intro (And.intro trivial ?_) ?_
                · refine gdNT ?_
                  refine And.intro trivial ?_
                  refine gdNT ?_
                  refine And.intro trivial ?_
                  refine gdNT ?_
                  refine gdNT ?_
                  refine condF ?_
                  have hy := someE hF
                  subst hy
                  refine And.intro rfl (Exists.intro [] (Exists.intro [] (And.intro rfl (And.intro rfl (And.intro trivial trivial)))))
                · refine gdNT ?_
                  refine And.intro trivial ?_
                  refine gdNT ?_
                  refine And.intro trivial ?_
                  refine gdNT ?_
                  refine gdNT ?_
                  refine condF ?_
                  have hy := someE hF
                  subst hy
                  refine And.intro rfl (Exists.intro [] (Exists.intro [] (And.intro rfl (And.intro rfl (And.intro trivial trivial)))))
              · refine gdNT ?_
                refine And.intro trivial ?_
                refine gdNT ?_
                refine And.intro trivial ?_
                refine gdNT ?_
                refine gdNT ?_
                refine condF ?_
                refine And.intro (And.intro trivial ?_) ?_
                · refine gdNT ?_
                  refine And.intro trivial ?_
                  refine gdNT ?_
                  refine And.intro trivial ?_
                  refine gdNT ?_
                  refine gdNT ?_
                  refine condF ?_
                  have hy := someE hF
                  subst hy
                  refine And.intro rfl (Exists.intro [] (Exists.intro [] (And.intro rfl (And.intro rfl (And.intro trivial trivial)))))
                · refine gdNT ?_
                  refine And.intro trivial ?_
                  refine gdNT ?_
                  refine And.intro trivial ?_
                  refine gdNT ?_
                  refine gdNT ?_
                  refine condF ?_
                  have hy := someE hF
                  subst hy
                  refine And.intro rfl (Exists.intro [] (Exists.intro [] (And.intro rfl (And.intro rfl (And.intro trivial trivial)))))
            · refine gdNT ?_
              refine And.intro trivial ?_
              refine gdNT ?_
              refine gdNT ?_
              refine And.intro trivial ?_
              refine gdNT ?_
              refine condF ?_
              refine gdNT ?_
              refine gdNT ?_
              refine condF ?_
              refine gdNT ?_
              refine gdNT ?_
              refine condF ?_
              refine gdNT ?_
              refine gdNT ?_
              refine condF ?_
              refine gdNT ?_
              refine gdNT ?_
              refine condF ?_
              refine gdNT ?_
              refine gdNT ?_
              refine condF ?_
              refine gdNT ?_
              refine gdNT ?_
              refine condF ?_
              refine And.intro (And.intro trivial ?_) ?_
              · refine gdNT ?_
                refine And.intro trivial ?_
                refine gdNT ?_
                refine And.intro trivial ?_
                refine gdNT ?_
                refine gdNT ?_
                refine condF ?_
                refine And.intro (And.intro trivial ?_) ?_
                · refine gdNT ?_
                  refine And.intro trivial ?_
                  refine gdNT ?_
                  refine And.intro trivial ?_
                  refine gdNT ?_
                  refine gdNT ?_
                  refine condF ?_
                  have hy := someE hF
                  subst hy
                  refine And.intro rfl (Exists.intro [] (Exists.intro [] (And.intro rfl (And.intro rfl (And.intro trivial trivial)))))
                · refine gdNT ?_
                  refine And.intro trivial ?_
                  refine gdNT ?_
                  refine And.intro trivial ?_
                  refine gdNT ?_
                  refine gdNT ?_
                  refine condF ?_
                  have hy := someE hF
                  subst hy
                  refine And.intro rfl (Exists.intro [] (Exists.intro [] (And.intro rfl (And.intro rfl (And.intro trivial trivial)))))
              · refine gdNT ?_
                refine And.intro trivial ?_
                refine gdNT ?_
                refine And.intro trivial ?_
                refine gdNT ?_
                refine gdNT ?_
                refine condF ?_
                refine And.intro (And.intro trivial ?_) ?_
                · refine gdNT ?_
                  refine And.intro trivial ?_
                  refine gdNT ?_
                  refine And.intro trivial ?_
                  refine gdNT ?_
                  refine gdNT ?_
                  refine condF ?_
                  have hy := someE hF
                  subst hy
                  refine And.intro rfl (Exists.intro [] (Exists.intro [] (And.intro rfl (And.intro rfl (And.intro trivial trivial)))))
                · refine gdNT ?_
                  refine And.intro trivial ?_
                  refine gdNT ?_
                  refine And.intro trivial ?_
                  refine gdNT ?_
                  refine gdNT ?_
                  refine condF ?_
                  have hy := someE hF
                  subst hy
                  refine And.intro rfl (Exists.intro [] (Exists.intro [] (And.intro rfl (And.intro rfl (And.intro trivial trivial)))))
        · refine gdNT ?_
          refine condF ?_
          refine gdNT ?_
          refine And.intro (And.intro trivial ?_) ?_
          · refine gdNT ?_
            refine And.intro trivial ?_
            refine gdNT ?_
            refine gdNT ?_
            refine And.intro trivial ?_
            refine gdNT ?_
            refine condF ?_
            refine gdNT ?_
            refine gdNT ?_
            refine condF ?_
            refine gdNT ?_
            refine gdNT ?_
            refine condF ?_
            refine gdNT ?_
            refine gdNT ?_
            refine condF ?_
            refine gdNT ?_
            refine gdNT ?_
            refine condF ?_
            refine gdNT ?_
            refine gdNT ?_
            refine condF ?_
            refine gdNT ?_
            refine gdNT ?_
            refine condF ?_
            refine And.intro (And.intro trivial ?_) ?_
            · refine gdNT ?_
              refine And.intro trivial ?_
              refine gdNT ?_
              refine And.intro trivial ?_
              refine gdNT ?_
              refine gdNT ?_
              refine condF ?_
              refine And.intro (And.intro trivial ?_) ?_
              · refine gdNT ?_
                refine And.intro trivial ?_
                refine gdNT ?_
                refine And.intro trivial ?_
                refine gdNT ?_
                refine gdNT ?_
                refine condF ?_
                have hy := someE hF
                subst hy
                refine And.intro rfl (Exists.intro [] (Exists.intro [] (And.intro rfl (And.intro rfl (And.intro trivial trivial)))))
              · refine gdNT ?_
                refine And.intro trivial ?_
                refine gdNT ?_
                refine And.intro trivial ?_
                refine gdNT ?_
                refine gdNT ?_
                refine condF ?_
                have hy := someE hF
                subst hy
                refine And.intro rfl (Exists.intro [] (Exists.intro [] (And.intro rfl (And.intro rfl (And.intro trivial trivial)))))
            · refine gdNT ?_
              refine And.intro trivial ?_
              refine gdNT ?_
              refine And.intro trivial ?_
              refine gdNT ?_
              refine gdNT ?_
              refine condF ?_
              refine And.intro (And.intro trivial ?_) ?_
              · refine gdNT ?_
                refine And.intro trivial ?_
                refine gdNT ?_
                refine And.intro trivial ?_
                refine gdNT ?_
                refine gdNT ?_
                refine condF ?_
                have hy := someE hF
                subst hy
                refine And.intro rfl (Exists.intro [] (Exists.intro [] (And.intro rfl (And.intro rfl (And.intro trivial trivial)))))
              · refine gdNT ?_
                refine And.intro trivial ?_
                refine gdNT ?_
                refine And.intro trivial ?_
                refine gdNT ?_
                refine gdNT ?_
                refine condF ?_
                have hy := someE hF
                subst hy
                refine And.intro rfl (Exists.intro [] (Exists.intro [] (And.intro rfl (And.intro rfl (And.intro trivial trivial)))))
          · refine gdNT ?_
            refine And.intro trivial ?_
            refine gdNT ?_
            refine gdNT ?_
            refine And.intro trivial ?_
            refine gdNT ?_
            refine condF ?_
            refine gdNT ?_
            refine gdNT ?_
            refine condF ?_
            refine gdNT ?_
            refine gdNT ?_
            refine condF ?_
            refine gdNT ?_
            refine gdNT ?_
            refine condF ?_
            refine gdNT ?_
            refine gdNT ?_
            refine condF ?_
            refine gdNT ?_
            refine gdNT ?_
            refine condF ?_
            refine gdNT ?_
            refine gdNT ?_
            refine condF ?_
            refine And.intro (And.intro trivial ?_) ?_
            · refine gdNT ?_
              refine And.intro trivial ?_
              refine gdNT ?_
              refine And.intro trivial ?_
              refine gdNT ?_
              refine gdNT ?_
              refine condF ?_
              refine And.intro (And.intro trivial ?_) ?_
              · refine gdNT ?_
                refine And.intro trivial ?_
                refine gdNT ?_
                refine And.intro trivial ?_
                refine gdNT ?_
                refine gdNT ?_
                refine condF ?_
                have hy := someE hF
                subst hy
                refine And.intro rfl (Exists.intro [] (Exists.intro [] (And.intro rfl (And.intro rfl (And.intro trivial trivial)))))
              · refine gdNT ?_
                refine And.intro trivial ?_
                refine gdNT ?_
                refine And.intro trivial ?_
                refine gdNT ?_
                refine gdNT ?_
                refine condF ?_
                have hy := someE hF
                subst hy
                refine And.intro rfl (Exists.intro [] (Exists.intro [] (And.intro rfl (And.intro rfl (And.intro trivial trivial)))))
            · refine gdNT ?_
              refine And.intro trivial ?_
              refine gdNT ?_
              refine And.intro trivial ?_
              refine gdNT ?_
              refine gdNT ?_
              refine condF ?_
              refine And.intro (And.intro trivial ?_) ?_
              · refine gdNT ?_
                refine And.intro trivial ?_
                refine gdNT ?_
                refine And.intro trivial ?_
                refine gdNT ?_
                refine gdNT ?_
                refine condF ?_
                have hy := someE hF
                subst hy
                refine And.intro rfl (Exists.intro [] (Exists.intro [] (And.intro rfl (And.intro rfl (And.intro trivial trivial)))))
              · refine gdNT ?_
                refine And.intro trivial ?_
                refine gdNT ?_
                refine And.intro trivial ?_
                refine gdNT ?_
                refine gdNT ?_
                refine condF ?_
                have hy := someE hF
                subst hy
                refine And.intro rfl (Exists.intro [] (Exists.intro [] (And.intro rfl (And.intro rfl (And.intro trivial trivial)))))
      · refine And.intro trivial ?_
        refine gdNT ?_
        refine And.intro trivial ?_
        refine gdNT ?_
        refine And.intro trivial ?_
        refine gdNT ?_
        refine condF ?_
        refine gdNT ?_
        refine gdNT ?_
        refine condF ?_
        refine gdNT ?_
        refine And.intro (And.intro trivial ?_) ?_
        · refine gdNT ?_
          refine And.intro trivial ?_
          refine gdNT ?_
          refine gdNT ?_
          refine And.intro trivial ?_
          refine gdNT ?_
          refine condF ?_
          refine gdNT ?_
          refine gdNT ?_
          refine condF ?_
          refine gdNT ?_
          refine gdNT ?_
          refine condF ?_
          refine gdNT ?_
          refine gdNT ?_
          refine condF ?_
          refine gdNT ?_
          refine gdNT ?_
          refine condF ?_
          refine gdNT ?_
          refine gdNT ?_
          refine condF ?_
          refine gdNT ?_
          refine gdNT ?_
          refine condF ?_
          refine And.intro (And.intro trivial ?_) ?_
          · refine gdNT ?_
            refine And.intro trivial ?_
            refine gdNT ?_
            refine And.intro trivial ?_
            refine gdNT ?_
            refine gdNT ?_
            refine condF ?_
            refine And.intro (And.intro trivial ?_) ?_
            · refine gdNT ?_
              refine And.intro trivial ?_
              refine gdNT ?_
              refine And.intro trivial ?_
              refine gdNT ?_
              refine gdNT ?_
              refine condF ?_
              have hy := someE hF
              subst hy
              refine And.intro rfl (Exists.intro [] (Exists.intro [] (And.intro rfl (And.intro rfl (And.intro trivial trivial)))))
            · refine gdNT ?_
              refine And.intro trivial ?_
              refine gdNT ?_
              refine And.intro trivial ?_
              refine gdNT ?_
              refine gdNT ?_
              refine condF ?_
              have hy := someE hF
              subst hy
              refine And.intro rfl (Exists.intro [] (Exists.intro [] (And.intro rfl (And.intro rfl (And.intro trivial trivial)))))
          · refine gdNT ?_
            refine And.intro trivial ?_
            refine gdNT ?_
            refine And.intro trivial ?_
            refine gdNT ?_
            refine gdNT ?_
            refine condF ?_
            refine And.intro (And.intro trivial ?_) ?_
            · refine gdNT ?_
              refine And.intro trivial ?_
              refine gdNT ?_
              refine And.intro trivial ?_
              refine gdNT ?_
              refine gdNT ?_
              refine condF ?_
              have hy := someE hF
              subst hy
              refine And.intro rfl (Exists.intro [] (Exists.intro [] (And.intro rfl (And.intro rfl (And.intro trivial trivial)))))
            · refine gdNT ?_
              refine And.intro trivial ?_
              refine gdNT ?_
              refine And.intro trivial ?_
              refine gdNT ?_
              refine gdNT ?_
              refine condF ?_
              have hy := someE hF
              subst hy
              refine And.intro rfl (Exists.intro [] (Exists.intro [] (And.intro rfl (And.intro rfl (And.intro trivial trivial)))))
        · refine gdNT ?_
          refine And.intro trivial ?_
          refine gdNT ?_
          refine gdNT ?_
          refine And.intro trivial ?_
          refine gdNT ?_
          refine condF ?_
          refine gdNT ?_
          refine gdNT ?_
          refine condF ?_
          refine gdNT ?_
          refine gdNT ?_
          refine condF ?_
          refine gdNT ?_
          refine gdNT ?_
          refine condF ?_
          refine gdNT ?_
          refine gdNT ?_
          refine condF ?_
          refine gdNT ?_
          refine gdNT ?_
          refine condF ?_
          refine gdNT ?_
          refine gdNT ?_
          refine condF ?_
          refine And.intro (And.intro trivial ?_) ?_
          · refine gdNT ?_
            refine And.intro trivial ?_
            refine gdNT ?_
            refine And.intro trivial ?_
            refine gdNT ?_
            refine gdNT ?_
            refine condF ?_
            refine And.intro (And.intro trivial ?_) ?_
            · refine gdNT ?_
              refine And.intro trivial ?_
              refine gdNT ?_
              refine And.intro trivial ?_
              refine gdNT ?_
              refine gdNT ?_
              refine condF ?_
              have hy := someE hF
              subst hy
              refine And.intro rfl (Exists.intro [] (Exists.intro [] (And.intro rfl (And.intro rfl (And.intro trivial trivial)))))
            · refine gdNT ?_
              refine And.intro trivial ?_
              refine gdNT ?_
              refine And.intro trivial ?_
              refine gdNT ?_
              refine gdNT ?_
              refine condF ?_
              have hy := someE hF
              subst hy
              refine And.intro rfl (Exists.intro [] (Exists.intro [] (And.intro rfl (And.intro rfl (And.intro trivial trivial)))))
          · refine gdNT ?_
            refine And.intro trivial ?_
            refine gdNT ?_
            refine And.intro trivial ?_
            refine gdNT ?_
            refine gdNT ?_
            refine condF ?_
            refine And.intro (And.intro trivial ?_) ?_
            · refine gdNT ?_
              refine And.intro trivial ?_
              refine gdNT ?_
              refine And.intro trivial ?_
              refine gdNT ?_
              refine gdNT ?_
              refine condF ?_
              have hy := someE hF
              subst hy
              refine And.intro rfl (Exists.intro [] (Exists.intro [] (And.intro rfl (And.intro rfl (And.intro trivial trivial)))))
            · refine gdNT ?_
              refine And.intro trivial ?_
              refine gdNT ?_
              refine And.intro trivial ?_
              refine gdNT ?_
              refine gdNT ?_
              refine condF ?_
              have hy := someE hF
              subst hy
              refine And.intro rfl (Exists.intro [] (Exists.intro [] (And.intro rfl (And.intro rfl (And.intro trivial trivial)))))
    · refine gdNT ?_
      refine condF ?_
      refine gdNT ?_
      refine And.intro trivial ?_
      refine gdNT ?_
      refine And.intro trivial ?_
      refine gdNT ?_
      refine And.intro trivial ?_
      refine gdNT ?_
      refine condF ?_
      refine gdNT ?_
      refine gdNT ?_
      refine condF ?_
      refine gdNT ?_
      refine And.intro (And.intro trivial ?_) ?_
      · refine gdNT ?_
        refine And.intro trivial ?_
        refine gdNT ?_
        refine gdNT ?_
        refine And.intro trivial ?_
        refine gdNT ?_
        refine condF ?_
        refine gdNT ?_
        refine gdNT ?_
        refine condF ?_
        refine gdNT ?_
        refine gdNT ?_
        refine condF ?_
        refine gdNT ?_
        refine gdNT ?_
        refine condF ?_
        refine gdNT ?_
        refine gdNT ?_
        refine condF ?_
        refine gdNT ?_
        refine gdNT ?_
        refine condF ?_
        refine gdNT ?_
        refine gdNT ?_
        refine condF ?_
        refine And.intro (And.intro trivial ?_) ?_
        · refine gdNT ?_
          refine And.intro trivial ?_
          refine gdNT ?_
          refine And.intro trivial ?_
          refine gdNT ?_
          refine gdNT ?_
          refine condF ?_
          refine And.intro (And.intro trivial ?_) ?_
          · refine gdNT ?_
            refine And.intro trivial ?_
            refine gdNT ?_
            refine And.intro trivial ?_
            refine gdNT ?_
            refine gdNT ?_
            refine condF ?_
            have hy := someE hF
            subst hy
            refine And.intro rfl (Exists.intro [] (Exists.intro [] (And.intro rfl (And.intro rfl (And.intro trivial trivial)))))
          · refine gdNT ?_
            refine And.intro trivial ?_
            refine gdNT ?_
            refine And.intro trivial ?_
            refine gdNT ?_
            refine gdNT ?_
            refine condF ?_
            have hy := someE hF
            subst hy
            refine And.intro rfl (Exists.intro [] (Exists.intro [] (And.intro rfl (And.intro rfl (And.intro trivial trivial)))))
        · refine gdNT ?_
          refine And.intro trivial ?_
          refine gdNT ?_
          refine And.intro trivial ?_
          refine gdNT ?_
          refine gdNT ?_
          refine condF ?_
          refine And.intro (And.intro trivial ?_) ?_
          · refine gdNT ?_
            refine And.intro trivial ?_
            refine gdNT ?_
            refine And.intro trivial ?_
            refine gdNT ?_
            refine gdNT ?_
            refine condF ?_
            have hy := someE hF
            subst hy
            refine And.intro rfl (Exists.intro [] (Exists.intro [] (And.intro rfl (And.intro rfl (And.intro trivial trivial)))))
          · refine gdNT ?_
            refine And.intro trivial ?_
            refine gdNT ?_
            refine And.intro trivial ?_
            refine gdNT ?_
            refine gdNT ?_
            refine condF ?_
            have hy := someE hF
            subst hy
            refine And.intro rfl (Exists.intro [] (Exists.intro [] (And.intro rfl (And.intro rfl (And.intro trivial trivial)))))
      · refine gdNT ?_
        refine And.intro trivial ?_
        refine gdNT ?_
        refine gdNT ?_
        refine And.intro trivial ?_
        refine gdNT ?_
        refine condF ?_
        refine gdNT ?_
        refine gdNT ?_
        refine condF ?_
        refine gdNT ?_
        refine gdNT ?_
        refine condF ?_
        refine gdNT ?_
        refine gdNT ?_
        refine condF ?_
        refine gdNT ?_
        refine gdNT ?_
        refine condF ?_
        refine gdNT ?_
        refine gdNT ?_
        refine condF ?_
        refine gdNT ?_
        refine gdNT ?_
        refine condF ?_
        refine And.intro (And.intro trivial ?_) ?_
        · refine gdNT ?_
          refine And.intro trivial ?_
          refine gdNT ?_
          refine And.intro trivial ?_
          refine gdNT ?_
          refine gdNT ?_
          refine condF ?_
          refine And.intro (And.intro trivial ?_) ?_
          · refine gdNT ?_
            refine And.intro trivial ?_
            refine gdNT ?_
            refine And.intro trivial ?_
            refine gdNT ?_
            refine gdNT ?_
            refine condF ?_
            have hy := someE hF
            subst hy
            refine And.intro rfl (Exists.intro [] (Exists.intro [] (And.intro rfl (And.intro rfl (And.intro trivial trivial)))))
          · refine gdNT ?_
            refine And.intro trivial ?_
            refine gdNT ?_
            refine And.intro trivial ?_
            refine gdNT ?_
            refine gdNT ?_
            refine condF ?_
            have hy := someE hF
            subst hy
            refine And.intro rfl (Exists.intro [] (Exists.intro [] (And.intro rfl (And.intro rfl (And.intro trivial trivial)))))
        · refine gdNT ?_
          refine And.intro trivial ?_
          refine gdNT ?_
          refine And.intro trivial ?_
          refine gdNT ?_
          refine gdNT ?_
          refine condF ?_
          refine And.intro (And.intro trivial ?_) ?_
          · refine gdNT ?_
            refine And.intro trivial ?_
            refine gdNT ?_
            refine And.intro trivial ?_
            refine gdNT ?_
            refine gdNT ?_
            refine condF ?_
            have hy := someE hF
            subst hy
            refine And.intro rfl (Exists.intro [] (Exists.intro [] (And.intro rfl (And.intro rfl (And.intro trivial trivial)))))
          · refine gdNT ?_
            refine And.intro trivial ?_
            refine gdNT ?_
            refine And.intro trivial ?_
            refine gdNT ?_
            refine gdNT ?_
            refine condF ?_
            have hy := someE hF
            subst hy
            refine And.intro rfl (Exists.intro [] (Exists.intro [] (And.intro rfl (And.intro rfl (And.intro trivial trivial)))))
theorem C7_holds : C7.Holds Try.prog 7 := holds_of_vc tab_ok mixed (fn := Try.f7) (by kernel_rfl) rfl C7 (fun x y hF => C7_vc y hF)
theorem f7_in : ∃ fn, Try.prog.funcs[7]? = some fn ∧ fn.body.isSome = true ∧ (fn.name == "runtime.NumGoroutine") = false := ⟨Try.f7, by kernel_rfl, by kernel_rfl, by kernel_rfl⟩
end Go.Proofs
