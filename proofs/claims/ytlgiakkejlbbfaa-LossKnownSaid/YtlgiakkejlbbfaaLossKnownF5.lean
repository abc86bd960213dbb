import Derived.Test.YtlgiakkejlbbfaaLossKnownF4
set_option linter.unusedVariables false
set_option maxRecDepth 100000
set_option maxHeartbeats 8000000
namespace Go.Proofs
open Go.AM
-- carousel/loss.Hinge
def f13_j1 (class_ : Int) (r1 : Bool × (List Int) × (List Int) × (List (Int × Int × Int × Int × (List Int) × (List Int)))) : Option (Sum Unit Int) :=
  bif (!r1.1) then
    some (Sum.inr (1 : Int))
  else
    bif ((List.length r1.2.1 : Int) != (1 : Int)) then
      some (Sum.inr (4 : Int))
    else
      bif (decide (class_ < (0 : Int))) then
        some (Sum.inr (4 : Int))
      else
        bif (decide (class_ ≥ (List.length r1.2.2.1 : Int))) then
          some (Sum.inr (4 : Int))
        else
          some (Sum.inl ())
def f13 (t_l : List (Int × Int × Int × Int × (List Int) × (List Int))) (out : Int) (class_ : Int) : Option (Int × Int × (List (Int × Int × Int × Int × (List Int) × (List Int)))) :=
  bindF (f12 t_l out) fun r1 =>
  bindF (f13_j1 class_ r1) fun z2 =>
  sumF z2 (fun z2a =>
    bindF (f23 r1.2.1 (0 : Int)) fun r3 =>
    bindF (f24 ([(4294967296 : Int)]) (List.length r1.2.2.1 : Int)) fun r4 =>
    guardF (0 ≤ class_ ∧ class_ < (List.length r3.2.2 : Int)) <|
    guardF (0 ≤ class_ ∧ class_ < (List.length r4 : Int)) <|
    bindF (f18 r1.2.2.2) fun r5 =>
    bindF (f20 r5.2 r5.1 (0 : Int) (List.set r3.2.2 (Int.toNat class_) (-4294967296 : Int))) fun r6 =>
    bindF (f20 r6.2.2.2 r6.2.1 r6.2.2.1 (List.set r4 (Int.toNat class_) (0 : Int))) fun r7 =>
    bindF (f19 r7.2.2.2 r7.2.1 r7.2.2.1 (4 : Int) out r6.1 (0 : Int)) fun r8 =>
    bindF (f19 r8.2.2.2 r8.2.1 r8.2.2.1 (9 : Int) r8.1 (0 : Int) (0 : Int)) fun r9 =>
    bindF (f19 r9.2.2.2 r9.2.1 r9.2.2.1 (2 : Int) out r9.1 (0 : Int)) fun r10 =>
    bindF (f19 r10.2.2.2 r10.2.1 r10.2.2.1 (2 : Int) r10.1 r7.1 (0 : Int)) fun r11 =>
    bindF (f19 r11.2.2.2 r11.2.1 r11.2.2.1 (11 : Int) r11.1 (0 : Int) (1 : Int)) fun r12 =>
    bindF (f19 r12.2.2.2 r12.2.1 r12.2.2.1 (4 : Int) r12.1 r7.1 (0 : Int)) fun r13 =>
    bindF (f19 r13.2.2.2 r13.2.1 r13.2.2.1 (9 : Int) r13.1 (0 : Int) (0 : Int)) fun r14 =>
    bindF (f21 r14.2.2.2 r14.2.1 r14.2.2.1 r14.1) fun r15 =>
    some (r15.1, r15.2.1, r15.2.2.2.2)) (fun z2b =>
    some ((0 : Int), z2b, r1.2.2.2))
def C13 : Con where
  X := (List (Int × Int × Int × Int × (List Int) × (List Int))) × Int × Int
  Y := Int × Int × (List (Int × Int × Int × Int × (List Int) × (List Int)))
  e := 2
  args x := [.raw false [(.ptr 0 0)], .dat (.int .i64) x.2.1, .dat (.int .i64) x.2.2]
  hin x := [(0, .cells [(.osl 1)]), (1, .arr 49 (.p (.int .i64) (.p (.int .i64) (.p (.int .i64) (.p (.int .i64) (.p (.sl (.int .i64)) (.sl (.int .i64))))))) x.1)]
  F x := f13 x.1 x.2.1 x.2.2
  ret y := [.dat (.int .i64) y.1, .dat (.int .i64) y.2.1]
  hout y := [(0, .cells [(.osl 2)]), (2, .arr 49 (.p (.int .i64) (.p (.int .i64) (.p (.int .i64) (.p (.int .i64) (.p (.sl (.int .i64)) (.sl (.int .i64))))))) y.2.2)]
  nout := 3
theorem C13_vc (t_l : List (Int × Int × Int × Int × (List Int) × (List Int))) (out : Int) (class_ : Int) (y : Int × Int × (List (Int × Int × Int × Int × (List Int) × (List Int)))) (hF : f13 t_l out class_ = some y) : vc Try.prog tab Try.f13.ntmps 2 (match Try.f13.body with | some c => c | none => .skip) (retK tab C13 Try.f13.results.toList y) (C13.shIn (t_l, out, class_)).st := by
  unfold f13 at hF
  refine Or.inl ?_
  refine Or.inl ?_
  obtain ⟨r1, hr1, hF⟩ := bindE hF
  refine Or.inl (And.intro f12_in (callI C12 (t_l, out) r1 [(0, some 0), (1, some 1)] false C12_holds hr1 rfl rfl ?_))
  refine (And.intro rfl (And.intro (fun h => nomatch h) (And.intro rfl (And.intro rfl (And.intro (And.intro rfl trivial) (And.intro (And.intro rfl (And.intro rfl trivial)) ?_))))))
  refine Or.inl ?_
  obtain ⟨z2, hz2, hF⟩ := bindE hF
  refine Or.inr ⟨Sum.elim (fun z2a => [(0, ⟨[(0, .raw false [(.ptr 0 0)]), (1, .dat (.int .i64) out), (2, .dat (.int .i64) class_), (8, .raw false [(.ptr 2 0)])], [(0, .cells [(.osl 1)]), (1, .arr 49 (.p (.int .i64) (.p (.int .i64) (.p (.int .i64) (.p (.int .i64) (.p (.sl (.int .i64)) (.sl (.int .i64))))))) r1.2.2.2), (2, .cells [(.osl 3), (.osl 4)]), (3, .arr 3 (.int .i64) r1.2.1), (4, .arr 24 (.int .i64) r1.2.2.1)], 5⟩)]) (fun z2b => [(1, ⟨[(6, .dat (.int .i64) (0 : Int)), (7, .dat (.int .i64) z2b)], [(0, .cells [(.osl 1)]), (1, .arr 49 (.p (.int .i64) (.p (.int .i64) (.p (.int .i64) (.p (.int .i64) (.p (.sl (.int .i64)) (.sl (.int .i64))))))) r1.2.2.2)], 2⟩)]) z2, ?_, ?_⟩
  · have hF := hz2
    clear hz2
    unfold f13_j1 at hF
    refine Or.inl ?_
    refine condI hF (fun hF => ?_) (fun hF => ?_)
    · refine Or.inl ?_
      have hz := someE hF
      subst hz
      refine Exists.intro [] (Exists.intro [] (Exists.intro [] (Exists.intro [(0, some 0), (1, some 1)] (And.intro rfl (And.intro rfl (And.intro rfl (And.intro trivial (And.intro rfl (And.intro rfl trivial)))))))))
    · refine Or.inl ?_
      refine condN hF (fun hF => ?_) (fun hF => ?_)
      · refine gdYF ?_
        refine condF ?_
        refine condN hF (fun hF => ?_) (fun hF => ?_)
        · refine gdYF ?_
          refine gdYF ?_
          refine gdYF ?_
          refine gdYF ?_
          refine condF ?_
          refine condI hF (fun hF => ?_) (fun hF => ?_)
          · refine Or.inl ?_
            have hz := someE hF
            subst hz
            refine Exists.intro [] (Exists.intro [] (Exists.intro [] (Exists.intro [(0, some 0), (1, some 1)] (And.intro rfl (And.intro rfl (And.intro rfl (And.intro trivial (And.intro rfl (And.intro rfl trivial)))))))))
          · have hz := someE hF
            subst hz
            refine Exists.intro [] (Exists.intro [] (Exists.intro [] (Exists.intro [(0, some 0), (1, some 1), (2, some 6), (3, some 4), (4, some 5)] (And.intro rfl (And.intro rfl (And.intro rfl (And.intro (And.intro rfl (And.intro rfl trivial)) (And.intro rfl (And.intro rfl (And.intro rfl (And.intro rfl (And.intro rfl trivial))))))))))))
        · refine gdNF ?_
          refine gdNF ?_
          refine gdNF ?_
          refine gdNF ?_
          refine condT ?_
          refine condT ?_
          refine Or.inl ?_
          have hz := someE hF
          subst hz
          refine Exists.intro [] (Exists.intro [] (Exists.intro [] (Exists.intro [(0, some 0), (1, some 1)] (And.intro rfl (And.intro rfl (And.intro rfl (And.intro trivial (And.intro rfl (And.intro rfl trivial)))))))))
      · refine gdNF ?_
        refine condT ?_
        refine gdNF ?_
        refine gdNF ?_
        refine gdNF ?_
        refine gdNF ?_
        refine gdNF ?_
        refine condT ?_
        refine condT ?_
        refine Or.inl ?_
        have hz := someE hF
        subst hz
        refine Exists.intro [] (Exists.intro [] (Exists.intro [] (Exists.intro [(0, some 0), (1, some 1)] (And.intro rfl (And.intro rfl (And.intro rfl (And.intro trivial (And.intro rfl (And.intro rfl trivial)))))))))
  · rcases z2 with z2a | z2b
    · dsimp only [sumF] at hF
      refine And.intro ?_ trivial
      refine Or.inl ?_
      obtain ⟨r3, hr3, hF⟩ := bindE hF
      refine Or.inl (And.intro f23_in (callI C23 (r1.2.1, (0 : Int)) r3 [] true C23_holds hr3 rfl rfl ?_))
      refine (And.intro rfl (And.intro rfl (And.intro (fun _ => rfl) (And.intro rfl (And.intro rfl (And.intro trivial (And.intro trivial ?_)))))))
      refine Or.inl ?_
      refine Or.inl ?_
      refine Or.inl ?_
      obtain ⟨r4, hr4, hF⟩ := bindE hF
      refine Or.inl (And.intro f24_in (callI C24 ([(4294967296 : Int)], (List.length r1.2.2.1 : Int)) r4 [] true C24_holds hr4 rfl rfl ?_))
      refine (And.intro rfl (And.intro rfl (And.intro (fun _ => rfl) (And.intro rfl (And.intro rfl (And.intro trivial (And.intro trivial ?_)))))))
      refine Or.inl ?_
      refine guardI hF (fun hF => ?_)
      refine Or.inl ?_
      refine guardI hF (fun hF => ?_)
      refine Or.inl ?_
      refine Or.inl ?_
      obtain ⟨r5, hr5, hF⟩ := bindE hF
      refine Or.inl (And.intro f18_in (callI C18 r1.2.2.2 r5 [(0, some 0), (1, some 1)] false C18_holds hr5 rfl rfl ?_))
      refine (And.intro (fun h => nomatch h) (And.intro rfl (And.intro rfl (And.intro (And.intro rfl trivial) (And.intro (And.intro rfl (And.intro rfl trivial)) ?_)))))
      refine Or.inl ?_
      obtain ⟨r6, hr6, hF⟩ := bindE hF
      have hr6 : C20.F (r5.2, r5.1, (0 : Int), (List.set r3.2.2 (Int.toNat class_) (-4294967296 : Int))) = some r6 := hr6
      refine Or.inl (And.intro f20_in (callI C20 _ r6 [(0, some 12), (1, some 0), (2, some 1)] false C20_holds hr6 rfl rfl ?_))
      refine (And.intro rfl (And.intro (fun h => nomatch h) (And.intro rfl (And.intro rfl (And.intro (And.intro rfl trivial) (And.intro (And.intro rfl (And.intro rfl (And.intro rfl trivial))) ?_))))))
      refine Or.inl ?_
      obtain ⟨r7, hr7, hF⟩ := bindE hF
      refine Or.inl (And.intro f20_in (callI C20 (r6.2.2.2, r6.2.1, r6.2.2.1, (List.set r4 (Int.toNat class_) (0 : Int))) r7 [(0, some 12), (1, some 0), (2, some 16)] false C20_holds hr7 rfl rfl ?_))
      refine (And.intro rfl (And.intro (fun h => nomatch h) (And.intro rfl (And.intro rfl (And.intro (And.intro rfl trivial) (And.intro (And.intro rfl (And.intro rfl (And.intro rfl trivial))) ?_))))))
      refine Or.inl ?_
      obtain ⟨r8, hr8, hF⟩ := bindE hF
      refine Or.inl (And.intro f19_in (callI C19 (r7.2.2.2, r7.2.1, r7.2.2.1, (4 : Int), out, r6.1, (0 : Int)) r8 [(0, some 12), (1, some 0), (2, some 20)] false C19_holds hr8 rfl rfl ?_))
      refine (And.intro rfl (And.intro rfl (And.intro rfl (And.intro rfl (And.intro (fun h => nomatch h) (And.intro rfl (And.intro rfl (And.intro (And.intro rfl trivial) (And.intro (And.intro rfl (And.intro rfl (And.intro rfl trivial))) ?_)))))))))
      obtain ⟨r9, hr9, hF⟩ := bindE hF
      refine Or.inl (And.intro f19_in (callI C19 (r8.2.2.2, r8.2.1, r8.2.2.1, (9 : Int), r8.1, (0 : Int), (0 : Int)) r9 [(0, some 12), (1, some 0), (2, some 24)] false C19_holds hr9 rfl rfl ?_))
      refine (And.intro rfl (And.intro rfl (And.intro rfl (And.intro rfl (And.intro (fun h => nomatch h) (And.intro rfl (And.intro rfl (And.intro (And.intro rfl trivial) (And.intro (And.intro rfl (And.intro rfl (And.intro rfl trivial))) ?_)))))))))
      refine Or.inl ?_
      obtain ⟨r10, hr10, hF⟩ := bindE hF
      refine Or.inl (And.intro f19_in (callI C19 (r9.2.2.2, r9.2.1, r9.2.2.1, (2 : Int), out, r9.1, (0 : Int)) r10 [(0, some 12), (1, some 0), (2, some 28)] false C19_holds hr10 rfl rfl ?_))
      refine (And.intro rfl (And.intro rfl (And.intro rfl (And.intro rfl (And.intro (fun h => nomatch h) (And.intro rfl (And.intro rfl (And.intro (And.intro rfl trivial) (And.intro (And.intro rfl (And.intro rfl (And.intro rfl trivial))) ?_)))))))))
      obtain ⟨r11, hr11, hF⟩ := bindE hF
      refine Or.inl (And.intro f19_in (callI C19 (r10.2.2.2, r10.2.1, r10.2.2.1, (2 : Int), r10.1, r7.1, (0 : Int)) r11 [(0, some 12), (1, some 0), (2, some 32)] false C19_holds hr11 rfl rfl ?_))
      refine (And.intro rfl (And.intro rfl (And.intro rfl (And.intro rfl (And.intro (fun h => nomatch h) (And.intro rfl (And.intro rfl (And.intro (And.intro rfl trivial) (And.intro (And.intro rfl (And.intro rfl (And.intro rfl trivial))) ?_)))))))))
      refine Or.inl ?_
      obtain ⟨r12, hr12, hF⟩ := bindE hF
      refine Or.inl (And.intro f19_in (callI C19 (r11.2.2.2, r11.2.1, r11.2.2.1, (11 : Int), r11.1, (0 : Int), (1 : Int)) r12 [(0, some 12), (1, some 0), (2, some 36)] false C19_holds hr12 rfl rfl ?_))
      refine (And.intro rfl (And.intro rfl (And.intro rfl (And.intro rfl (And.intro (fun h => nomatch h) (And.intro rfl (And.intro rfl (And.intro (And.intro rfl trivial) (And.intro (And.intro rfl (And.intro rfl (And.intro rfl trivial))) ?_)))))))))
      obtain ⟨r13, hr13, hF⟩ := bindE hF
      refine Or.inl (And.intro f19_in (callI C19 (r12.2.2.2, r12.2.1, r12.2.2.1, (4 : Int), r12.1, r7.1, (0 : Int)) r13 [(0, some 12), (1, some 0), (2, some 40)] false C19_holds hr13 rfl rfl ?_))
      refine (And.intro rfl (And.intro rfl (And.intro rfl (And.intro rfl (And.intro (fun h => nomatch h) (And.intro rfl (And.intro rfl (And.intro (And.intro rfl trivial) (And.intro (And.intro rfl (And.intro rfl (And.intro rfl trivial))) ?_)))))))))
      obtain ⟨r14, hr14, hF⟩ := bindE hF
      refine Or.inl (And.intro f19_in (callI C19 (r13.2.2.2, r13.2.1, r13.2.2.1, (9 : Int), r13.1, (0 : Int), (0 : Int)) r14 [(0, some 12), (1, some 0), (2, some 44)] false C19_holds hr14 rfl rfl ?_))
      refine (And.intro rfl (And.intro rfl (And.intro rfl (And.intro rfl (And.intro (fun h => nomatch h) (And.intro rfl (And.intro rfl (And.intro (And.intro rfl trivial) (And.intro (And.intro rfl (And.intro rfl (And.intro rfl trivial))) ?_)))))))))
      obtain ⟨r15, hr15, hF⟩ := bindE hF
      refine Or.inl (And.intro f21_in (callI C21 (r14.2.2.2, r14.2.1, r14.2.2.1, r14.1) r15 [(0, some 12), (1, some 0), (2, some 48)] false C21_holds hr15 rfl rfl ?_))
      refine (And.intro rfl (And.intro (fun h => nomatch h) (And.intro rfl (And.intro rfl (And.intro (And.intro rfl trivial) (And.intro (And.intro rfl (And.intro rfl (And.intro rfl trivial))) ?_))))))
      have hy := someE hF
      subst hy
      refine And.intro rfl (Exists.intro [] (Exists.intro [] (Exists.intro [] (Exists.intro [(0, some 0), (2, some 52)] (And.intro rfl (And.intro rfl (And.intro rfl (And.intro trivial (And.intro rfl (And.intro rfl trivial))))))))))
    · dsimp only [sumF] at hF
      refine And.intro ?_ trivial
      have hy := someE hF
      subst hy
      refine And.intro rfl (Exists.intro [] (Exists.intro [] (Exists.intro [] (Exists.intro [(0, some 0), (2, some 1)] (And.intro rfl (And.intro rfl (And.intro rfl (And.intro trivial (And.intro rfl (And.intro rfl trivial))))))))))
theorem C13_holds : C13.Holds Try.prog 13 := holds_of_vc tab_ok mixed (fn := Try.f13) (by kernel_rfl) rfl C13 (fun x y hF => C13_vc x.1 x.2.1 x.2.2 y hF)
theorem f13_in : ∃ fn, Try.prog.funcs[13]? = some fn ∧ fn.body.isSome = true ∧ (fn.name == "runtime.NumGoroutine") = false := ⟨Try.f13, by kernel_rfl, by kernel_rfl, by kernel_rfl⟩
end Go.Proofs
namespace Go.Proofs
open Go.AM
-- carousel/carousellaw13.LossKnown
def f5 : Option Bool :=
  bindF (f6) fun r1 =>
  bif (!r1) then
    some false
  else
    bindF (f7) fun r2 =>
    bindF (f9 ([(12884901888 : Int), (4294967296 : Int)])) fun r3 =>
    bindF (f8 ([]) (r3.2, r3.1)) fun r4 =>
    bindF (f8 r4.2.2 ([(1 : Int), (2 : Int)], [(1 : Int), (2 : Int)])) fun r5 =>
    bindF (f10 r5.2.2 (9 : Int) ([])) fun r6 =>
    bindF (f11 r6.2.2 r4.1 ([(1 : Int)])) fun r7 =>
    bindF (f10 r7.2.2 r5.1 ([(1 : Int), (2 : Int)])) fun r8 =>
    bindF (f13 r8.2.2 r4.1 (2 : Int)) fun r9 =>
    bindF (f13 r9.2.2 (-1 : Int) (0 : Int)) fun r10 =>
    bindF (f11 r10.2.2 r4.1 ([(0 : Int), (0 : Int)])) fun r11 =>
    bindF (f13 r11.2.2 r4.1 (1 : Int)) fun r12 =>
    bindF (f13 r12.2.2 r4.1 (0 : Int)) fun r13 =>
    bindF (f12 r13.2.2 r11.1) fun r14 =>
    bindF (f12 r14.2.2.2 r12.1) fun r15 =>
    bindF (f12 r15.2.2.2 r13.1) fun r16 =>
    bif (r6.2.1 == (1 : Int)) then
      bif (r7.2.1 == (1 : Int)) then
        bif (r8.2.1 == (4 : Int)) then
          bif (r9.2.1 == (4 : Int)) then
            bif (r10.2.1 == (1 : Int)) then
              bif (r11.2.1 == (0 : Int)) then
                guardF (0 ≤ (0 : Int) ∧ (0 : Int) < (List.length r14.2.2.1 : Int)) <|
                bif ((rd (0 : Int) r14.2.2.1 (0 : Int)) == (8589934592 : Int)) then
                  bif (r12.2.1 == (0 : Int)) then
                    guardF (0 ≤ (0 : Int) ∧ (0 : Int) < (List.length r15.2.2.1 : Int)) <|
                    bif ((rd (0 : Int) r15.2.2.1 (0 : Int)) == (12884901888 : Int)) then
                      bif (r13.2.1 == (0 : Int)) then
                        guardF (0 ≤ (0 : Int) ∧ (0 : Int) < (List.length r16.2.2.1 : Int)) <|
                        some ((rd (0 : Int) r16.2.2.1 (0 : Int)) == (0 : Int))
                      else
                        some false
                    else
                      some false
                  else
                    some false
                else
                  some false
              else
                some false
            else
              some false
          else
            some false
        else
          some false
      else
        some false
    else
      some false
def C5 : Con where
  X := Unit
  Y := Bool
  e := 0
  args x := []
  hin x := []
  F x := f5
  ret y := [.dat .bool y]
  hout y := []
  nout := 0
theorem C5_vc (y : Bool) (hF : f5 = some y) : vc Try.prog tab Try.f5.ntmps 0 (match Try.f5.body with | some c => c | none => .skip) (retK tab C5 Try.f5.results.toList y) (C5.shIn ()).st := by
  unfold f5 at hF
  refine Or.inl ?_
  refine Or.inl ?_
  refine Or.inl ?_
  obtain ⟨r1, hr1, hF⟩ := bindE hF
  refine Or.inl (And.intro f6_in (callI C6 () r1 [] false C6_holds hr1 rfl rfl ?_))
  refine (And.intro (fun h => nomatch h) (And.intro rfl (And.intro rfl (And.intro trivial (And.intro trivial ?_)))))
  refine condI hF (fun hF => ?_) (fun hF => ?_)
  · refine Or.inl ?_
    have hy := someE hF
    subst hy
    refine And.intro rfl (Exists.intro [] (Exists.intro [] (Exists.intro [] (Exists.intro [] (And.intro rfl (And.intro rfl (And.intro trivial trivial)))))))
  · refine Or.inl ?_
    obtain ⟨r2, hr2, hF⟩ := bindE hF
    refine Or.inl (And.intro f7_in (callI C7 () r2 [] false C7_holds hr2 rfl rfl ?_))
    refine (And.intro (fun h => nomatch h) (And.intro rfl (And.intro rfl (And.intro trivial (And.intro trivial ?_)))))
    refine Or.inl ?_
    refine Or.inl ?_
    obtain ⟨r3, hr3, hF⟩ := bindE hF
    refine Or.inl (And.intro f9_in (callI C9 [(12884901888 : Int), (4294967296 : Int)] r3 [] false C9_holds hr3 rfl rfl ?_))
    refine (And.intro rfl (And.intro (fun h => nomatch h) (And.intro rfl (And.intro rfl (And.intro trivial (And.intro trivial ?_))))))
    obtain ⟨r4, hr4, hF⟩ := bindE hF
    refine Or.inl (And.intro f8_in (callI C8 ([], (r3.2, r3.1)) r4 [(0, some 0), (1, some 1)] false C8_holds hr4 rfl rfl ?_))
    refine (And.intro rfl (And.intro rfl (And.intro (fun h => nomatch h) (And.intro rfl (And.intro rfl (And.intro (And.intro rfl trivial) (And.intro (And.intro rfl (And.intro rfl trivial)) ?_)))))))
    refine Or.inl ?_
    refine Or.inl ?_
    refine Or.inl ?_
    obtain ⟨r5, hr5, hF⟩ := bindE hF
    refine Or.inl (And.intro f8_in (callI C8 (r4.2.2, ([(1 : Int), (2 : Int)], [(1 : Int), (2 : Int)])) r5 [(0, some 0), (1, some 6)] false C8_holds hr5 rfl rfl ?_))
    refine (And.intro rfl (And.intro rfl (And.intro (fun h => nomatch h) (And.intro rfl (And.intro rfl (And.intro (And.intro rfl trivial) (And.intro (And.intro rfl (And.intro rfl trivial)) ?_)))))))
    refine Or.inl ?_
    obtain ⟨r6, hr6, hF⟩ := bindE hF
    refine Or.inl (And.intro f10_in (callI C10 (r5.2.2, (9 : Int), []) r6 [(0, some 0), (1, some 11)] false C10_holds hr6 rfl rfl ?_))
    refine (And.intro rfl (And.intro rfl (And.intro (fun h => nomatch h) (And.intro rfl (And.intro rfl (And.intro (And.intro rfl trivial) (And.intro (And.intro rfl (And.intro rfl trivial)) ?_)))))))
    refine Or.inl ?_
    refine Or.inl ?_
    obtain ⟨r7, hr7, hF⟩ := bindE hF
    refine Or.inl (And.intro f11_in (callI C11 (r6.2.2, r4.1, [(1 : Int)]) r7 [(0, some 0), (1, some 14)] false C11_holds hr7 rfl rfl ?_))
    refine (And.intro rfl (And.intro rfl (And.intro (fun h => nomatch h) (And.intro rfl (And.intro rfl (And.intro (And.intro rfl trivial) (And.intro (And.intro rfl (And.intro rfl trivial)) ?_)))))))
    refine Or.inl ?_
    refine Or.inl ?_
    obtain ⟨r8, hr8, hF⟩ := bindE hF
    refine Or.inl (And.intro f10_in (callI C10 (r7.2.2, r5.1, [(1 : Int), (2 : Int)]) r8 [(0, some 0), (1, some 18)] false C10_holds hr8 rfl rfl ?_))
    refine (And.intro rfl (And.intro rfl (And.intro (fun h => nomatch h) (And.intro rfl (And.intro rfl (And.intro (And.intro rfl trivial) (And.intro (And.intro rfl (And.intro rfl trivial)) ?_)))))))
    refine Or.inl ?_
    obtain ⟨r9, hr9, hF⟩ := bindE hF
    refine Or.inl (And.intro f13_in (callI C13 (r8.2.2, r4.1, (2 : Int)) r9 [(0, some 0), (1, some 22)] false C13_holds hr9 rfl rfl ?_))
    refine (And.intro rfl (And.intro rfl (And.intro (fun h => nomatch h) (And.intro rfl (And.intro rfl (And.intro (And.intro rfl trivial) (And.intro (And.intro rfl (And.intro rfl trivial)) ?_)))))))
    refine Or.inl ?_
    obtain ⟨r10, hr10, hF⟩ := bindE hF
    have hr10 : C13.F (r9.2.2, (-1 : Int), (0 : Int)) = some r10 := hr10
    refine Or.inl (And.intro f13_in (callI C13 _ r10 [(0, some 0), (1, some 25)] false C13_holds hr10 rfl rfl ?_))
    refine (And.intro rfl (And.intro rfl (And.intro (fun h => nomatch h) (And.intro rfl (And.intro rfl (And.intro (And.intro rfl trivial) (And.intro (And.intro rfl (And.intro rfl trivial)) ?_)))))))
    refine Or.inl ?_
    refine Or.inl ?_
    obtain ⟨r11, hr11, hF⟩ := bindE hF
    refine Or.inl (And.intro f11_in (callI C11 (r10.2.2, r4.1, [(0 : Int), (0 : Int)]) r11 [(0, some 0), (1, some 28)] false C11_holds hr11 rfl rfl ?_))
    refine (And.intro rfl (And.intro rfl (And.intro (fun h => nomatch h) (And.intro rfl (And.intro rfl (And.intro (And.intro rfl trivial) (And.intro (And.intro rfl (And.intro rfl trivial)) ?_)))))))
    refine Or.inl ?_
    obtain ⟨r12, hr12, hF⟩ := bindE hF
    refine Or.inl (And.intro f13_in (callI C13 (r11.2.2, r4.1, (1 : Int)) r12 [(0, some 0), (1, some 32)] false C13_holds hr12 rfl rfl ?_))
    refine (And.intro rfl (And.intro rfl (And.intro (fun h => nomatch h) (And.intro rfl (And.intro rfl (And.intro (And.intro rfl trivial) (And.intro (And.intro rfl (And.intro rfl trivial)) ?_)))))))
    refine Or.inl ?_
    obtain ⟨r13, hr13, hF⟩ := bindE hF
    refine Or.inl (And.intro f13_in (callI C13 (r12.2.2, r4.1, (0 : Int)) r13 [(0, some 0), (1, some 35)] false C13_holds hr13 rfl rfl ?_))
    refine (And.intro rfl (And.intro rfl (And.intro (fun h => nomatch h) (And.intro rfl (And.intro rfl (And.intro (And.intro rfl trivial) (And.intro (And.intro rfl (And.intro rfl trivial)) ?_)))))))
    refine Or.inl ?_
    obtain ⟨r14, hr14, hF⟩ := bindE hF
    refine Or.inl (And.intro f12_in (callI C12 (r13.2.2, r11.1) r14 [(0, some 0), (1, some 38)] false C12_holds hr14 rfl rfl ?_))
    refine (And.intro rfl (And.intro (fun h => nomatch h) (And.intro rfl (And.intro rfl (And.intro (And.intro rfl trivial) (And.intro (And.intro rfl (And.intro rfl trivial)) ?_))))))
    refine Or.inl ?_
    refine Or.inl ?_
    obtain ⟨r15, hr15, hF⟩ := bindE hF
    refine Or.inl (And.intro f12_in (callI C12 (r14.2.2.2, r12.1) r15 [(0, some 0), (1, some 38)] false C12_holds hr15 rfl rfl ?_))
    refine (And.intro rfl (And.intro (fun h => nomatch h) (And.intro rfl (And.intro rfl (And.intro (And.intro rfl trivial) (And.intro (And.intro rfl (And.intro rfl trivial)) ?_))))))
    refine Or.inl ?_
    refine Or.inl ?_
    obtain ⟨r16, hr16, hF⟩ := bindE hF
    refine Or.inl (And.intro f12_in (callI C12 (r15.2.2.2, r13.1) r16 [(0, some 0), (1, some 38)] false C12_holds hr16 rfl rfl ?_))
    refine (And.intro rfl (And.intro (fun h => nomatch h) (And.intro rfl (And.intro rfl (And.intro (And.intro rfl trivial) (And.intro (And.intro rfl (And.intro rfl trivial)) ?_))))))
    refine Or.inl ?_
    refine Or.inl ?_
    refine condI hF (fun hF => ?_) (fun hF => ?_)
    · refine gdYT ?_
      refine condT ?_
      refine condI hF (fun hF => ?_) (fun hF => ?_)
      · refine gdYT ?_
        refine condT ?_
        refine condI hF (fun hF => ?_) (fun hF => ?_)
        · refine gdYT ?_
          refine condT ?_
          refine condI hF (fun hF => ?_) (fun hF => ?_)
          · refine gdYT ?_
            refine condT ?_
            refine condI hF (fun hF => ?_) (fun hF => ?_)
            · refine gdYT ?_
              refine condT ?_
              refine condI hF (fun hF => ?_) (fun hF => ?_)
              · refine gdYT ?_
                refine gdYT ?_
                refine guardI hF (fun hF => ?_)
                refine gdYT ?_
                refine gdYT ?_
                refine condT ?_
                refine condI hF (fun hF => ?_) (fun hF => ?_)
                · refine gdYT ?_
                  refine condT ?_
                  refine condI hF (fun hF => ?_) (fun hF => ?_)
                  · refine gdYT ?_
                    refine gdYT ?_
                    refine guardI hF (fun hF => ?_)
                    refine gdYT ?_
                    refine gdYT ?_
                    refine condT ?_
                    refine condI hF (fun hF => ?_) (fun hF => ?_)
                    · refine gdYT ?_
                      refine condT ?_
                      refine condI hF (fun hF => ?_) (fun hF => ?_)
                      · refine gdYT ?_
                        refine gdYT ?_
                        refine guardI hF (fun hF => ?_)
                        refine gdYT ?_
                        refine gdYT ?_
                        refine condT ?_
                        have hy := someE hF
                        subst hy
                        refine And.intro rfl (Exists.intro [] (Exists.intro [] (Exists.intro [] (Exists.intro [] (And.intro rfl (And.intro rfl (And.intro trivial trivial)))))))
                      · refine gdNT ?_
                        refine gdNT ?_
                        refine gdNT ?_
                        refine gdNT ?_
                        refine condF ?_
                        have hy := someE hF
                        subst hy
                        refine And.intro rfl (Exists.intro [] (Exists.intro [] (Exists.intro [] (Exists.intro [] (And.intro rfl (And.intro rfl (And.intro trivial trivial)))))))
                    · refine gdNT ?_
                      refine condF ?_
                      refine gdNT ?_
                      refine gdNT ?_
                      refine gdNT ?_
                      refine gdNT ?_
                      refine gdNT ?_
                      refine condF ?_
                      have hy := someE hF
                      subst hy
                      refine And.intro rfl (Exists.intro [] (Exists.intro [] (Exists.intro [] (Exists.intro [] (And.intro rfl (And.intro rfl (And.intro trivial trivial)))))))
                  · refine gdNT ?_
                    refine gdNT ?_
                    refine gdNT ?_
                    refine gdNT ?_
                    refine condF ?_
                    refine gdNT ?_
                    refine gdNT ?_
                    refine condF ?_
                    refine gdNT ?_
                    refine gdNT ?_
                    refine gdNT ?_
                    refine gdNT ?_
                    refine gdNT ?_
                    refine condF ?_
                    have hy := someE hF
                    subst hy
                    refine And.intro rfl (Exists.intro [] (Exists.intro [] (Exists.intro [] (Exists.intro [] (And.intro rfl (And.intro rfl (And.intro trivial trivial)))))))
                · refine gdNT ?_
                  refine condF ?_
                  refine gdNT ?_
                  refine gdNT ?_
                  refine gdNT ?_
                  refine gdNT ?_
                  refine gdNT ?_
                  refine condF ?_
                  refine gdNT ?_
                  refine gdNT ?_
                  refine condF ?_
                  refine gdNT ?_
                  refine gdNT ?_
                  refine gdNT ?_
                  refine gdNT ?_
                  refine gdNT ?_
                  refine condF ?_
                  have hy := someE hF
                  subst hy
                  refine And.intro rfl (Exists.intro [] (Exists.intro [] (Exists.intro [] (Exists.intro [] (And.intro rfl (And.intro rfl (And.intro trivial trivial)))))))
              · refine gdNT ?_
                refine gdNT ?_
                refine gdNT ?_
                refine gdNT ?_
                refine condF ?_
                refine gdNT ?_
                refine gdNT ?_
                refine condF ?_
                refine gdNT ?_
                refine gdNT ?_
                refine gdNT ?_
                refine gdNT ?_
                refine gdNT ?_
                refine condF ?_
                refine gdNT ?_
                refine gdNT ?_
                refine condF ?_
                refine gdNT ?_
                refine gdNT ?_
                refine gdNT ?_
                refine gdNT ?_
                refine gdNT ?_
                refine condF ?_
                have hy := someE hF
                subst hy
                refine And.intro rfl (Exists.intro [] (Exists.intro [] (Exists.intro [] (Exists.intro [] (And.intro rfl (And.intro rfl (And.intro trivial trivial)))))))
            · refine gdNT ?_
              refine condF ?_
              refine gdNT ?_
              refine gdNT ?_
              refine gdNT ?_
              refine gdNT ?_
              refine gdNT ?_
              refine condF ?_
              refine gdNT ?_
              refine gdNT ?_
              refine condF ?_
              refine gdNT ?_
              refine gdNT ?_
              refine gdNT ?_
              refine gdNT ?_
              refine gdNT ?_
              refine condF ?_
              refine gdNT ?_
              refine gdNT ?_
              refine condF ?_
              refine gdNT ?_
              refine gdNT ?_
              refine gdNT ?_
              refine gdNT ?_
              refine gdNT ?_
              refine condF ?_
              have hy := someE hF
              subst hy
              refine And.intro rfl (Exists.intro [] (Exists.intro [] (Exists.intro [] (Exists.intro [] (And.intro rfl (And.intro rfl (And.intro trivial trivial)))))))
          · refine gdNT ?_
            refine condF ?_
            refine gdNT ?_
            refine gdNT ?_
            refine condF ?_
            refine gdNT ?_
            refine gdNT ?_
            refine gdNT ?_
            refine gdNT ?_
            refine gdNT ?_
            refine condF ?_
            refine gdNT ?_
            refine gdNT ?_
            refine condF ?_
            refine gdNT ?_
            refine gdNT ?_
            refine gdNT ?_
            refine gdNT ?_
            refine gdNT ?_
            refine condF ?_
            refine gdNT ?_
            refine gdNT ?_
            refine condF ?_
            refine gdNT ?_
            refine gdNT ?_
            refine gdNT ?_
            refine gdNT ?_
            refine gdNT ?_
            refine condF ?_
            have hy := someE hF
            subst hy
            refine And.intro rfl (Exists.intro [] (Exists.intro [] (Exists.intro [] (Exists.intro [] (And.intro rfl (And.intro rfl (And.intro trivial trivial)))))))
        · refine gdNT ?_
          refine condF ?_
          refine gdNT ?_
          refine gdNT ?_
          refine condF ?_
          refine gdNT ?_
          refine gdNT ?_
          refine condF ?_
          refine gdNT ?_
          refine gdNT ?_
          refine gdNT ?_
          refine gdNT ?_
          refine gdNT ?_
          refine condF ?_
          refine gdNT ?_
          refine gdNT ?_
          refine condF ?_
          refine gdNT ?_
          refine gdNT ?_
          refine gdNT ?_
          refine gdNT ?_
          refine gdNT ?_
          refine condF ?_
          refine gdNT ?_
          refine gdNT ?_
          refine condF ?_
          refine gdNT ?_
          refine gdNT ?_
          refine gdNT ?_
          refine gdNT ?_
          refine gdNT ?_
          refine condF ?_
          have hy := someE hF
          subst hy
          refine And.intro rfl (Exists.intro [] (Exists.intro [] (Exists.intro [] (Exists.intro [] (And.intro rfl (And.intro rfl (And.intro trivial trivial)))))))
      · refine gdNT ?_
        refine condF ?_
        refine gdNT ?_
        refine gdNT ?_
        refine condF ?_
        refine gdNT ?_
        refine gdNT ?_
        refine condF ?_
        refine gdNT ?_
        refine gdNT ?_
        refine condF ?_
        refine gdNT ?_
        refine gdNT ?_
        refine gdNT ?_
        refine gdNT ?_
        refine gdNT ?_
        refine condF ?_
        refine gdNT ?_
        refine gdNT ?_
        refine condF ?_
        refine gdNT ?_
        refine gdNT ?_
        refine gdNT ?_
        refine gdNT ?_
        refine gdNT ?_
        refine condF ?_
        refine gdNT ?_
        refine gdNT ?_
        refine condF ?_
        refine gdNT ?_
        refine gdNT ?_
        refine gdNT ?_
        refine gdNT ?_
        refine gdNT ?_
        refine condF ?_
        have hy := someE hF
        subst hy
        refine And.intro rfl (Exists.intro [] (Exists.intro [] (Exists.intro [] (Exists.intro [] (And.intro rfl (And.intro rfl (And.intro trivial trivial)))))))
    · refine gdNT ?_
      refine condF ?_
      refine gdNT ?_
      refine gdNT ?_
      refine condF ?_
      refine gdNT ?_
      refine gdNT ?_
      refine condF ?_
      refine gdNT ?_
      refine gdNT ?_
      refine condF ?_
      refine gdNT ?_
      refine gdNT ?_
      refine condF ?_
      refine gdNT ?_
      refine gdNT ?_
      refine gdNT ?_
      refine gdNT ?_
      refine gdNT ?_
      refine condF ?_
      refine gdNT ?_
      refine gdNT ?_
      refine condF ?_
      refine gdNT ?_
      refine gdNT ?_
      refine gdNT ?_
      refine gdNT ?_
      refine gdNT ?_
      refine condF ?_
      refine gdNT ?_
      refine gdNT ?_
      refine condF ?_
      refine gdNT ?_
      refine gdNT ?_
      refine gdNT ?_
      refine gdNT ?_
      refine gdNT ?_
      refine condF ?_
      have hy := someE hF
      subst hy
      refine And.intro rfl (Exists.intro [] (Exists.intro [] (Exists.intro [] (Exists.intro [] (And.intro rfl (And.intro rfl (And.intro trivial trivial)))))))
theorem C5_holds : C5.Holds Try.prog 5 := holds_of_vc tab_ok mixed (fn := Try.f5) (by kernel_rfl) rfl C5 (fun x y hF => C5_vc y hF)
theorem f5_in : ∃ fn, Try.prog.funcs[5]? = some fn ∧ fn.body.isSome = true ∧ (fn.name == "runtime.NumGoroutine") = false := ⟨Try.f5, by kernel_rfl, by kernel_rfl, by kernel_rfl⟩
end Go.Proofs
