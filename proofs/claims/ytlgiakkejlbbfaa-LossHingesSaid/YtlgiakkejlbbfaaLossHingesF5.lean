import Derived.Test.YtlgiakkejlbbfaaLossHingesF4
set_option linter.unusedVariables false
set_option maxRecDepth 100000
set_option maxHeartbeats 8000000
namespace Go.Proofs
open Go.AM
-- carousel/tape.one
def f38 (op : Int) (a : (List Int) × (List Int)) (k : Int) : Option (Int × (List Int) × (List Int)) :=
  bif (op == (5 : Int)) then
    bindF (f46 (a.1, a.2) k) fun r1 =>
    some (r1.1, r1.2.1, r1.2.2)
  else
    bif (op == (7 : Int)) then
      bindF (f47 (a.1, a.2)) fun r2 =>
      some (r2.1, r2.2.1, r2.2.2)
    else
      bif (op == (8 : Int)) then
        bindF (f48 (a.1, a.2) k) fun r3 =>
        some (r3.1, r3.2.1, r3.2.2)
      else
        bif (op == (9 : Int)) then
          bindF (f50 (a.1, a.2)) fun r4 =>
          bindF (f49 r4.1 r4.2) fun r5 =>
          some (r5.1, r5.2.1, r5.2.2)
        else
          bif (op == (10 : Int)) then
            bindF (f51 (a.1, a.2)) fun r6 =>
            bindF (f49 r6.1 r6.2) fun r7 =>
            some (r7.1, r7.2.1, r7.2.2)
          else
            bif (op == (11 : Int)) then
              bindF (f52 k (a.1, a.2)) fun r8 =>
              some (r8.1, r8.2.1, r8.2.2)
            else
              bif (op == (13 : Int)) then
                bindF (f53 (a.1, a.2) k) fun r9 =>
                some (r9.1, r9.2.1, r9.2.2.1)
              else
                bindF (f54 (a.1, a.2) ([(List.length a.2 : Int)])) fun r10 =>
                some (r10.1, r10.2.1, r10.2.2)
def C38 : Con where
  X := Int × ((List Int) × (List Int)) × Int
  Y := Int × (List Int) × (List Int)
  e := 0
  args x := [.dat (.int .i64) x.1, .dat (.p (.sl (.int .i64)) (.sl (.int .i64))) x.2.1, .dat (.int .i64) x.2.2]
  hin x := []
  F x := f38 x.1 x.2.1 x.2.2
  ret y := [.raw true [(.osl 0), (.osl 1)], .dat (.int .i64) y.1]
  hout y := [(0, .arr 3 (.int .i64) y.2.1), (1, .arr 24 (.int .i64) y.2.2)]
  nout := 2
theorem C38_vc (op : Int) (a : (List Int) × (List Int)) (k : Int) (y : Int × (List Int) × (List Int)) (hF : f38 op a k = some y) : vc Try.prog tab Try.f38.ntmps 0 (match Try.f38.body with | some c => c | none => .skip) (retK tab C38 Try.f38.results.toList y) (C38.shIn (op, a, k)).st := by
  unfold f38 at hF
  refine Or.inl ?_
  refine Or.inl ?_
  refine Or.inl ?_
  refine Or.inl ?_
  refine condI hF (fun hF => ?_) (fun hF => ?_)
  · refine Or.inl ?_
    obtain ⟨r1, hr1, hF⟩ := bindE hF
    refine Or.inl (And.intro f46_in (callV0 (callI C46 ((a.1, a.2), k) r1 [] false C46_holds hr1 rfl rfl ?_)))
    refine (And.intro rfl (And.intro rfl (And.intro rfl (And.intro (fun h => nomatch h) (And.intro rfl (And.intro rfl (And.intro trivial (And.intro trivial ?_))))))))
    refine Or.inl ?_
    have hy := someE hF
    subst hy
    refine And.intro rfl (Exists.intro [] (Exists.intro [] (Exists.intro [] (Exists.intro [] (Exists.intro [(0, some 2), (1, some 3)] (And.intro rfl (And.intro rfl (And.intro (And.intro rfl trivial) (And.intro rfl (And.intro rfl trivial))))))))))
  · refine Or.inl ?_
    refine condI hF (fun hF => ?_) (fun hF => ?_)
    · refine Or.inl ?_
      obtain ⟨r2, hr2, hF⟩ := bindE hF
      refine Or.inl (And.intro f47_in (callV0 (callI C47 (a.1, a.2) r2 [] false C47_holds hr2 rfl rfl ?_)))
      refine (And.intro rfl (And.intro rfl (And.intro (fun h => nomatch h) (And.intro rfl (And.intro rfl (And.intro trivial (And.intro trivial ?_)))))))
      refine Or.inl ?_
      have hy := someE hF
      subst hy
      refine And.intro rfl (Exists.intro [] (Exists.intro [] (Exists.intro [] (Exists.intro [] (Exists.intro [(0, some 2), (1, some 3)] (And.intro rfl (And.intro rfl (And.intro (And.intro rfl trivial) (And.intro rfl (And.intro rfl trivial))))))))))
    · refine Or.inl ?_
      refine condI hF (fun hF => ?_) (fun hF => ?_)
      · refine Or.inl ?_
        obtain ⟨r3, hr3, hF⟩ := bindE hF
        refine Or.inl (And.intro f48_in (callV0 (callI C48 ((a.1, a.2), k) r3 [] false C48_holds hr3 rfl rfl ?_)))
        refine (And.intro rfl (And.intro rfl (And.intro rfl (And.intro (fun h => nomatch h) (And.intro rfl (And.intro rfl (And.intro trivial (And.intro trivial ?_))))))))
        refine Or.inl ?_
        have hy := someE hF
        subst hy
        refine And.intro rfl (Exists.intro [] (Exists.intro [] (Exists.intro [] (Exists.intro [] (Exists.intro [(0, some 2), (1, some 3)] (And.intro rfl (And.intro rfl (And.intro (And.intro rfl trivial) (And.intro rfl (And.intro rfl trivial))))))))))
      · refine Or.inl ?_
        refine condI hF (fun hF => ?_) (fun hF => ?_)
        · refine Or.inl ?_
          obtain ⟨r4, hr4, hF⟩ := bindE hF
          refine Or.inl (And.intro f50_in (callV0 (callI C50 (a.1, a.2) r4 [] false C50_holds hr4 rfl rfl ?_)))
          refine (And.intro rfl (And.intro rfl (And.intro (fun h => nomatch h) (And.intro rfl (And.intro rfl (And.intro trivial (And.intro trivial ?_)))))))
          obtain ⟨r5, hr5, hF⟩ := bindE hF
          refine Or.inl (And.intro f49_in (callV0 (callI C49 (r4.1, r4.2) r5 [] false C49_holds hr5 rfl rfl ?_)))
          refine (And.intro rfl (And.intro rfl (And.intro (fun h => nomatch h) (And.intro rfl (And.intro rfl (And.intro trivial (And.intro trivial ?_)))))))
          refine Or.inl ?_
          have hy := someE hF
          subst hy
          refine And.intro rfl (Exists.intro [] (Exists.intro [] (Exists.intro [] (Exists.intro [] (Exists.intro [(0, some 2), (1, some 3)] (And.intro rfl (And.intro rfl (And.intro (And.intro rfl trivial) (And.intro rfl (And.intro rfl trivial))))))))))
        · refine Or.inl ?_
          refine condI hF (fun hF => ?_) (fun hF => ?_)
          · refine Or.inl ?_
            obtain ⟨r6, hr6, hF⟩ := bindE hF
            refine Or.inl (And.intro f51_in (callV0 (callI C51 (a.1, a.2) r6 [] false C51_holds hr6 rfl rfl ?_)))
            refine (And.intro rfl (And.intro rfl (And.intro (fun h => nomatch h) (And.intro rfl (And.intro rfl (And.intro trivial (And.intro trivial ?_)))))))
            obtain ⟨r7, hr7, hF⟩ := bindE hF
            refine Or.inl (And.intro f49_in (callV0 (callI C49 (r6.1, r6.2) r7 [] false C49_holds hr7 rfl rfl ?_)))
            refine (And.intro rfl (And.intro rfl (And.intro (fun h => nomatch h) (And.intro rfl (And.intro rfl (And.intro trivial (And.intro trivial ?_)))))))
            refine Or.inl ?_
            have hy := someE hF
            subst hy
            refine And.intro rfl (Exists.intro [] (Exists.intro [] (Exists.intro [] (Exists.intro [] (Exists.intro [(0, some 2), (1, some 3)] (And.intro rfl (And.intro rfl (And.intro (And.intro rfl trivial) (And.intro rfl (And.intro rfl trivial))))))))))
          · refine Or.inl ?_
            refine condI hF (fun hF => ?_) (fun hF => ?_)
            · refine Or.inl ?_
              obtain ⟨r8, hr8, hF⟩ := bindE hF
              refine Or.inl (And.intro f52_in (callV0 (callI C52 (k, (a.1, a.2)) r8 [] false C52_holds hr8 rfl rfl ?_)))
              refine (And.intro rfl (And.intro rfl (And.intro rfl (And.intro (fun h => nomatch h) (And.intro rfl (And.intro rfl (And.intro trivial (And.intro trivial ?_))))))))
              refine Or.inl ?_
              have hy := someE hF
              subst hy
              refine And.intro rfl (Exists.intro [] (Exists.intro [] (Exists.intro [] (Exists.intro [] (Exists.intro [(0, some 2), (1, some 3)] (And.intro rfl (And.intro rfl (And.intro (And.intro rfl trivial) (And.intro rfl (And.intro rfl trivial))))))))))
            · refine Or.inl ?_
              refine condI hF (fun hF => ?_) (fun hF => ?_)
              · refine Or.inl ?_
                obtain ⟨r9, hr9, hF⟩ := bindE hF
                refine Or.inl (And.intro f53_in (callV0 (callI C53 ((a.1, a.2), k) r9 [] false C53_holds hr9 rfl rfl ?_)))
                refine (And.intro rfl (And.intro rfl (And.intro rfl (And.intro (fun h => nomatch h) (And.intro rfl (And.intro rfl (And.intro trivial (And.intro trivial ?_))))))))
                refine Or.inl ?_
                refine Or.inl ?_
                refine Or.inl ?_
                have hy := someE hF
                subst hy
                refine And.intro rfl (Exists.intro [] (Exists.intro [] (Exists.intro [] (Exists.intro [] (Exists.intro [(0, some 2), (1, some 3)] (And.intro rfl (And.intro rfl (And.intro (And.intro rfl trivial) (And.intro rfl (And.intro rfl trivial))))))))))
              · refine Or.inl ?_
                refine Or.inl ?_
                obtain ⟨r10, hr10, hF⟩ := bindE hF
                refine Or.inl (And.intro f54_in (callV0 (callI C54 ((a.1, a.2), [(List.length a.2 : Int)]) r10 [] true C54_holds hr10 rfl rfl ?_)))
                refine (And.intro rfl (And.intro rfl (And.intro rfl (And.intro (fun _ => rfl) (And.intro rfl (And.intro rfl (And.intro trivial (And.intro trivial ?_))))))))
                refine Or.inl ?_
                have hy := someE hF
                subst hy
                refine And.intro rfl (Exists.intro [] (Exists.intro [] (Exists.intro [] (Exists.intro [] (Exists.intro [(0, some 3), (1, some 4)] (And.intro rfl (And.intro rfl (And.intro (And.intro rfl trivial) (And.intro rfl (And.intro rfl trivial))))))))))
theorem C38_holds : C38.Holds Try.prog 38 := holds_of_vc tab_ok mixed (fn := Try.f38) (by kernel_rfl) rfl C38 (fun x y hF => C38_vc x.1 x.2.1 x.2.2 y hF)
theorem f38_in : ∃ fn, Try.prog.funcs[38]? = some fn ∧ fn.body.isSome = true ∧ (fn.name == "runtime.NumGoroutine") = false := ⟨Try.f38, by kernel_rfl, by kernel_rfl, by kernel_rfl⟩
end Go.Proofs
namespace Go.Proofs
open Go.AM
-- (*carousel/tape.Tape).Do
def f30_j1 (t_l : List (Int × Int × Int × Int × (List Int) × (List Int))) (op : Int) (a : Int) (b : Int) : Option (Sum (List (Int × Int × Int × Int × (List Int) × (List Int))) (Int × (List (Int × Int × Int × Int × (List Int) × (List Int))))) :=
  bif (decide ((List.length t_l : Int) ≥ (512 : Int))) then
    some (Sum.inr ((2 : Int), t_l))
  else
    bif (decide (op < (2 : Int))) then
      some (Sum.inr ((1 : Int), t_l))
    else
      bif (decide (op > (14 : Int))) then
        some (Sum.inr ((1 : Int), t_l))
      else
        bindF (f32 t_l a) fun r5 =>
        bif (!r5.1) then
          some (Sum.inr ((1 : Int), r5.2))
        else
          bindF (f35 op) fun r6 =>
          bif r6 then
            bindF (f32 r5.2 b) fun r7 =>
            bif (!r7.1) then
              some (Sum.inr ((1 : Int), r7.2))
            else
              some (Sum.inl r7.2)
          else
            some (Sum.inl r5.2)
def f30_j2 (op : Int) (k : Int) : Option Int :=
  bindF (f36 op) fun r10 =>
  bif r10 then
    some k
  else
    some (0 : Int)
def f30_j3 (op : Int) (a : Int) (b : Int) (k : Int) (z4a : List (Int × Int × Int × Int × (List Int) × (List Int))) : Option (Int × Int × (List Int) × (List Int)) :=
  bindF (f35 op) fun r13 =>
  bif r13 then
    guardF (0 ≤ a ∧ a < (List.length z4a : Int)) <|
    guardF (0 ≤ b ∧ b < (List.length z4a : Int)) <|
    bindF (f37 op ((((((rd (Ty.z (.p (.int .i64) (.p (.int .i64) (.p (.int .i64) (.p (.int .i64) (.p (.sl (.int .i64)) (.sl (.int .i64)))))))) z4a a).2).2).2).2).1, (((((rd (Ty.z (.p (.int .i64) (.p (.int .i64) (.p (.int .i64) (.p (.int .i64) (.p (.sl (.int .i64)) (.sl (.int .i64)))))))) z4a a).2).2).2).2).2) ((((((rd (Ty.z (.p (.int .i64) (.p (.int .i64) (.p (.int .i64) (.p (.int .i64) (.p (.sl (.int .i64)) (.sl (.int .i64)))))))) z4a b).2).2).2).2).1, (((((rd (Ty.z (.p (.int .i64) (.p (.int .i64) (.p (.int .i64) (.p (.int .i64) (.p (.sl (.int .i64)) (.sl (.int .i64)))))))) z4a b).2).2).2).2).2) k) fun q11_18 =>
    some (q11_18.1, b, q11_18.2.1, q11_18.2.2)
  else
    guardF (0 ≤ a ∧ a < (List.length z4a : Int)) <|
    bindF (f38 op ((((((rd (Ty.z (.p (.int .i64) (.p (.int .i64) (.p (.int .i64) (.p (.int .i64) (.p (.sl (.int .i64)) (.sl (.int .i64)))))))) z4a a).2).2).2).2).1, (((((rd (Ty.z (.p (.int .i64) (.p (.int .i64) (.p (.int .i64) (.p (.int .i64) (.p (.sl (.int .i64)) (.sl (.int .i64)))))))) z4a a).2).2).2).2).2) k) fun q11_24 =>
    some (q11_24.1, (-1 : Int), q11_24.2.1, q11_24.2.2)
def f30 (t_l : List (Int × Int × Int × Int × (List Int) × (List Int))) (op : Int) (a : Int) (b : Int) (k : Int) : Option (Int × Int × (List (Int × Int × Int × Int × (List Int) × (List Int)))) :=
  bindF (f30_j1 t_l op a b) fun z4 =>
  sumF z4 (fun z4a =>
    bindF (f30_j2 op k) fun z9 =>
    bindF (f30_j3 op a b k z4a) fun z12 =>
    bif (z12.1 != (0 : Int)) then
      some ((0 : Int), z12.1, z4a)
    else
      bindF (f15 z4a (op, a, z12.2.1, z9, z12.2.2.1, z12.2.2.2)) fun r14 =>
      some (r14.1, (0 : Int), r14.2)) (fun z4b =>
    some ((0 : Int), z4b.1, z4b.2))
def C30 : Con where
  X := (List (Int × Int × Int × Int × (List Int) × (List Int))) × Int × Int × Int × Int
  Y := Int × Int × (List (Int × Int × Int × Int × (List Int) × (List Int)))
  e := 2
  args x := [.raw false [(.ptr 0 0)], .dat (.int .i64) x.2.1, .dat (.int .i64) x.2.2.1, .dat (.int .i64) x.2.2.2.1, .dat (.int .i64) x.2.2.2.2]
  hin x := [(0, .cells [(.osl 1)]), (1, .arr 49 (.p (.int .i64) (.p (.int .i64) (.p (.int .i64) (.p (.int .i64) (.p (.sl (.int .i64)) (.sl (.int .i64))))))) x.1)]
  F x := f30 x.1 x.2.1 x.2.2.1 x.2.2.2.1 x.2.2.2.2
  ret y := [.dat (.int .i64) y.1, .dat (.int .i64) y.2.1]
  hout y := [(0, .cells [(.osl 2)]), (2, .arr 49 (.p (.int .i64) (.p (.int .i64) (.p (.int .i64) (.p (.int .i64) (.p (.sl (.int .i64)) (.sl (.int .i64))))))) y.2.2)]
  nout := 3
theorem C30_vc (t_l : List (Int × Int × Int × Int × (List Int) × (List Int))) (op : Int) (a : Int) (b : Int) (k : Int) (y : Int × Int × (List (Int × Int × Int × Int × (List Int) × (List Int)))) (hF : f30 t_l op a b k = some y) : vc Try.prog tab Try.f30.ntmps 2 (match Try.f30.body with | some c => c | none => .skip) (retK tab C30 Try.f30.results.toList y) (C30.shIn (t_l, op, a, b, k)).st := by
  unfold f30 at hF
  refine Or.inl ?_
  obtain ⟨z4, hz4, hF⟩ := bindE hF
  refine Or.inr ⟨Sum.elim (fun z4a => [(0, ⟨[(0, .raw false [(.ptr 0 0)]), (1, .dat (.int .i64) op), (2, .dat (.int .i64) a), (3, .dat (.int .i64) b), (4, .dat (.int .i64) k)], [(0, .cells [(.osl 1)]), (1, .arr 49 (.p (.int .i64) (.p (.int .i64) (.p (.int .i64) (.p (.int .i64) (.p (.sl (.int .i64)) (.sl (.int .i64))))))) z4a)], 2⟩)]) (fun z4b => [(1, ⟨[(10, .dat (.int .i64) (0 : Int)), (11, .dat (.int .i64) z4b.1)], [(0, .cells [(.osl 1)]), (1, .arr 49 (.p (.int .i64) (.p (.int .i64) (.p (.int .i64) (.p (.int .i64) (.p (.sl (.int .i64)) (.sl (.int .i64))))))) z4b.2)], 2⟩)]) z4, ?_, ?_⟩
  · have hF := hz4
    clear hz4
    unfold f30_j1 at hF
    refine Or.inl ?_
    refine condI hF (fun hF => ?_) (fun hF => ?_)
    · refine Or.inl ?_
      have hz := someE hF
      subst hz
      refine Exists.intro [] (Exists.intro [] (Exists.intro [] (Exists.intro [] (Exists.intro [(0, some 0), (1, some 1)] (And.intro rfl (And.intro rfl (And.intro rfl (And.intro trivial (And.intro rfl (And.intro rfl trivial))))))))))
    · refine Or.inl ?_
      refine condN hF (fun hF => ?_) (fun hF => ?_)
      · refine gdYF ?_
        refine condF ?_
        refine condN hF (fun hF => ?_) (fun hF => ?_)
        · refine gdYF ?_
          refine gdYF ?_
          obtain ⟨r5, hr5, hF⟩ := bindE hF
          refine Or.inl (And.intro f32_in (callV0 (callI C32 (t_l, a) r5 [(0, some 0), (1, some 1)] false C32_holds hr5 rfl rfl ?_)))
          refine (And.intro rfl (And.intro (fun h => nomatch h) (And.intro rfl (And.intro rfl (And.intro (And.intro rfl trivial) (And.intro (And.intro rfl (And.intro rfl trivial)) ?_))))))
          refine gdYF ?_
          refine condF ?_
          refine condN hF (fun hF => ?_) (fun hF => ?_)
          · refine gdYF ?_
            obtain ⟨r6, hr6, hF⟩ := bindE hF
            refine Or.inl (And.intro f35_in (callV0 (callI C35 op r6 [] false C35_holds hr6 rfl rfl ?_)))
            refine (And.intro rfl (And.intro (fun h => nomatch h) (And.intro rfl (And.intro rfl (And.intro trivial (And.intro trivial ?_))))))
            refine gdYF ?_
            refine condI hF (fun hF => ?_) (fun hF => ?_)
            · refine gdYT ?_
              refine gdYT ?_
              obtain ⟨r7, hr7, hF⟩ := bindE hF
              refine Or.inl (And.intro f32_in (callV0 (callI C32 (r5.2, b) r7 [(0, some 0), (1, some 1)] false C32_holds hr7 rfl rfl ?_)))
              refine (And.intro rfl (And.intro (fun h => nomatch h) (And.intro rfl (And.intro rfl (And.intro (And.intro rfl trivial) (And.intro (And.intro rfl (And.intro rfl trivial)) ?_))))))
              refine gdYT ?_
              refine gdYF ?_
              refine condT ?_
              refine condF ?_
              refine condI hF (fun hF => ?_) (fun hF => ?_)
              · refine Or.inl ?_
                have hz := someE hF
                subst hz
                refine Exists.intro [] (Exists.intro [] (Exists.intro [] (Exists.intro [] (Exists.intro [(0, some 0), (1, some 1)] (And.intro rfl (And.intro rfl (And.intro rfl (And.intro trivial (And.intro rfl (And.intro rfl trivial))))))))))
              · have hz := someE hF
                subst hz
                refine Exists.intro [] (Exists.intro [] (Exists.intro [] (Exists.intro [] (Exists.intro [(0, some 0), (1, some 1)] (And.intro rfl (And.intro rfl (And.intro rfl (And.intro rfl (And.intro rfl (And.intro (And.intro rfl trivial) (And.intro rfl (And.intro rfl trivial))))))))))))
            · refine gdNT ?_
              refine gdNT ?_
              refine gdNT ?_
              refine gdYF ?_
              refine condF ?_
              refine condF ?_
              refine condF ?_
              have hz := someE hF
              subst hz
              refine Exists.intro [] (Exists.intro [] (Exists.intro [] (Exists.intro [] (Exists.intro [(0, some 0), (1, some 1)] (And.intro rfl (And.intro rfl (And.intro rfl (And.intro rfl (And.intro rfl (And.intro (And.intro rfl trivial) (And.intro rfl (And.intro rfl trivial))))))))))))
          · refine gdNF ?_
            refine gdNF ?_
            refine gdNF ?_
            refine condT ?_
            refine condT ?_
            refine Or.inl ?_
            have hz := someE hF
            subst hz
            refine Exists.intro [] (Exists.intro [] (Exists.intro [] (Exists.intro [] (Exists.intro [(0, some 0), (1, some 1)] (And.intro rfl (And.intro rfl (And.intro rfl (And.intro trivial (And.intro rfl (And.intro rfl trivial))))))))))
        · refine gdNF ?_
          refine gdNF ?_
          refine gdNF ?_
          refine condT ?_
          refine gdNF ?_
          refine gdNF ?_
          refine gdNF ?_
          refine gdNF ?_
          refine condT ?_
          refine condT ?_
          refine Or.inl ?_
          have hz := someE hF
          subst hz
          refine Exists.intro [] (Exists.intro [] (Exists.intro [] (Exists.intro [] (Exists.intro [(0, some 0), (1, some 1)] (And.intro rfl (And.intro rfl (And.intro rfl (And.intro trivial (And.intro rfl (And.intro rfl trivial))))))))))
      · refine gdNF ?_
        refine condT ?_
        refine gdNF ?_
        refine gdNF ?_
        refine gdNF ?_
        refine gdNF ?_
        refine condT ?_
        refine gdNF ?_
        refine gdNF ?_
        refine gdNF ?_
        refine gdNF ?_
        refine condT ?_
        refine condT ?_
        refine Or.inl ?_
        have hz := someE hF
        subst hz
        refine Exists.intro [] (Exists.intro [] (Exists.intro [] (Exists.intro [] (Exists.intro [(0, some 0), (1, some 1)] (And.intro rfl (And.intro rfl (And.intro rfl (And.intro trivial (And.intro rfl (And.intro rfl trivial))))))))))
  · rcases z4 with z4a | z4b
    · dsimp only [sumF] at hF
      refine And.intro ?_ trivial
      refine Or.inl ?_
      refine Or.inl ?_
      obtain ⟨z9, hz9, hF⟩ := bindE hF
      refine Or.inr ⟨[(0, ⟨[(0, .raw false [(.ptr 0 0)]), (1, .dat (.int .i64) op), (2, .dat (.int .i64) a), (3, .dat (.int .i64) b), (4, .dat (.int .i64) k), (12, .raw false [(.ptr 2 0)])], [(0, .cells [(.osl 1)]), (1, .arr 49 (.p (.int .i64) (.p (.int .i64) (.p (.int .i64) (.p (.int .i64) (.p (.sl (.int .i64)) (.sl (.int .i64))))))) z4a), (2, .cells [(.d (.int .i64) op), (.d (.int .i64) a), (.d (.int .i64) (-1 : Int)), (.d (.int .i64) z9), (.c (.slice none 0 0)), (.c (.slice none 0 0))])], 3⟩)], ?_, ?_⟩
      · have hF := hz9
        clear hz9
        unfold f30_j2 at hF
        refine Or.inl ?_
        obtain ⟨r10, hr10, hF⟩ := bindE hF
        refine Or.inl (And.intro f36_in (callV0 (callI C36 op r10 [] false C36_holds hr10 rfl rfl ?_)))
        refine (And.intro rfl (And.intro (fun h => nomatch h) (And.intro rfl (And.intro rfl (And.intro trivial (And.intro trivial ?_))))))
        refine condI hF (fun hF => ?_) (fun hF => ?_)
        · refine Or.inl ?_
          have hz := someE hF
          subst hz
          refine Exists.intro [] (Exists.intro [] (Exists.intro [] (Exists.intro [] (Exists.intro [(0, some 0), (1, some 1), (2, some 2)] (And.intro rfl (And.intro rfl (And.intro rfl (And.intro rfl (And.intro rfl (And.intro (And.intro rfl (And.intro rfl trivial)) (And.intro rfl (And.intro rfl (And.intro rfl trivial)))))))))))))
        · have hz := someE hF
          subst hz
          refine Exists.intro [] (Exists.intro [] (Exists.intro [] (Exists.intro [] (Exists.intro [(0, some 0), (1, some 1), (2, some 2)] (And.intro rfl (And.intro rfl (And.intro rfl (And.intro rfl (And.intro rfl (And.intro (And.intro rfl (And.intro rfl trivial)) (And.intro rfl (And.intro rfl (And.intro rfl trivial)))))))))))))
      · refine And.intro ?_ trivial
        refine Or.inl ?_
        obtain ⟨z12, hz12, hF⟩ := bindE hF
        refine Or.inr ⟨[(0, ⟨[(0, .raw false [(.ptr 0 0)]), (12, .raw false [(.ptr 2 0)]), (13, .dat (.int .i64) z12.1)], [(0, .cells [(.osl 1)]), (1, .arr 49 (.p (.int .i64) (.p (.int .i64) (.p (.int .i64) (.p (.int .i64) (.p (.sl (.int .i64)) (.sl (.int .i64))))))) z4a), (2, .cells [(.d (.int .i64) op), (.d (.int .i64) a), (.d (.int .i64) z12.2.1), (.d (.int .i64) z9), (.osl 3), (.osl 4)]), (3, .arr 3 (.int .i64) z12.2.2.1), (4, .arr 24 (.int .i64) z12.2.2.2)], 5⟩)], ?_, ?_⟩
        · have hF := hz12
          clear hz12
          unfold f30_j3 at hF
          refine Or.inl ?_
          obtain ⟨r13, hr13, hF⟩ := bindE hF
          refine Or.inl (And.intro f35_in (callV0 (callI C35 op r13 [] false C35_holds hr13 rfl rfl ?_)))
          refine (And.intro rfl (And.intro (fun h => nomatch h) (And.intro rfl (And.intro rfl (And.intro trivial (And.intro trivial ?_))))))
          refine condI hF (fun hF => ?_) (fun hF => ?_)
          · refine Or.inl ?_
            refine Or.inl ?_
            refine Exists.intro (.take 0 (.take 1 (.take 2 (.take 3 (.take 4 (.take 5 (.take 6 (.take 7 (.take 8 (.take 9 (.take 10 (.take 11 (.take 12 (.take 13 (.take 14 (.take 15 (.take 16 (.take 17 (.alt 18 (.take 19 (.take 20 (.take 21 (.take 22 (.alt 23 (.take 24 .done) .done))))) .done))))))))))))))))))) (Exists.intro [] (Exists.intro [] (And.intro rfl ?_)))
            refine guardI hF (fun hF => ?_)
            refine guardI hF (fun hF => ?_)
            refine And.intro trivial ?_
            obtain ⟨q11_18, hq11_18, hF⟩ := bindE hF
            refine Or.inl (And.intro f37_in (callV0 (callI C37 (op, ((((((rd (Ty.z (.p (.int .i64) (.p (.int .i64) (.p (.int .i64) (.p (.int .i64) (.p (.sl (.int .i64)) (.sl (.int .i64)))))))) z4a a).2).2).2).2).1, (((((rd (Ty.z (.p (.int .i64) (.p (.int .i64) (.p (.int .i64) (.p (.int .i64) (.p (.sl (.int .i64)) (.sl (.int .i64)))))))) z4a a).2).2).2).2).2), ((((((rd (Ty.z (.p (.int .i64) (.p (.int .i64) (.p (.int .i64) (.p (.int .i64) (.p (.sl (.int .i64)) (.sl (.int .i64)))))))) z4a b).2).2).2).2).1, (((((rd (Ty.z (.p (.int .i64) (.p (.int .i64) (.p (.int .i64) (.p (.int .i64) (.p (.sl (.int .i64)) (.sl (.int .i64)))))))) z4a b).2).2).2).2).2), k) q11_18 [] false C37_holds hq11_18 rfl rfl ?_)))
            refine (And.intro rfl (And.intro rfl (And.intro rfl (And.intro rfl (And.intro rfl (And.intro rfl (And.intro (fun h => nomatch h) (And.intro rfl (And.intro rfl (And.intro trivial (And.intro trivial ?_)))))))))))
            refine And.intro trivial ?_
            refine Or.inl ?_
            have hz := someE hF
            subst hz
            refine Exists.intro [] (Exists.intro [] (Exists.intro [] (Exists.intro [] (Exists.intro [(0, some 0), (1, some 1), (2, some 2), (3, some 3), (4, some 4)] (And.intro rfl (And.intro rfl (And.intro (And.intro rfl (And.intro rfl trivial)) (And.intro rfl (And.intro rfl (And.intro rfl (And.intro rfl (And.intro rfl trivial))))))))))))
          · refine guardI hF (fun hF => ?_)
            obtain ⟨q11_24, hq11_24, hF⟩ := bindE hF
            refine Or.inl (And.intro f38_in (callV0 (callI C38 (op, ((((((rd (Ty.z (.p (.int .i64) (.p (.int .i64) (.p (.int .i64) (.p (.int .i64) (.p (.sl (.int .i64)) (.sl (.int .i64)))))))) z4a a).2).2).2).2).1, (((((rd (Ty.z (.p (.int .i64) (.p (.int .i64) (.p (.int .i64) (.p (.int .i64) (.p (.sl (.int .i64)) (.sl (.int .i64)))))))) z4a a).2).2).2).2).2), k) q11_24 [] false C38_holds hq11_24 rfl rfl ?_)))
            refine (And.intro rfl (And.intro rfl (And.intro rfl (And.intro rfl (And.intro (fun h => nomatch h) (And.intro rfl (And.intro rfl (And.intro trivial (And.intro trivial ?_)))))))))
            refine Or.inl ?_
            have hz := someE hF
            subst hz
            refine Exists.intro [] (Exists.intro [] (Exists.intro [] (Exists.intro [] (Exists.intro [(0, some 0), (1, some 1), (2, some 2), (3, some 3), (4, some 4)] (And.intro rfl (And.intro rfl (And.intro (And.intro rfl (And.intro rfl trivial)) (And.intro rfl (And.intro rfl (And.intro rfl (And.intro rfl (And.intro rfl trivial))))))))))))
        · refine And.intro ?_ trivial
          refine Or.inl ?_
          refine Or.inl ?_
          refine condI hF (fun hF => ?_) (fun hF => ?_)
          · refine Or.inl ?_
            have hy := someE hF
            subst hy
            refine And.intro rfl (Exists.intro [] (Exists.intro [] (Exists.intro [] (Exists.intro [] (Exists.intro [(0, some 0), (2, some 1)] (And.intro rfl (And.intro rfl (And.intro rfl (And.intro trivial (And.intro rfl (And.intro rfl trivial)))))))))))
          · refine Or.inl ?_
            obtain ⟨r14, hr14, hF⟩ := bindE hF
            refine Or.inl (And.intro f15_in (callV0 (callI C15 (z4a, (op, a, z12.2.1, z9, z12.2.2.1, z12.2.2.2)) r14 [(0, some 0), (1, some 1)] false C15_holds hr14 rfl rfl ?_)))
            refine (And.intro rfl (And.intro rfl (And.intro (fun h => nomatch h) (And.intro rfl (And.intro rfl (And.intro (And.intro rfl trivial) (And.intro (And.intro rfl (And.intro rfl trivial)) ?_)))))))
            have hy := someE hF
            subst hy
            refine And.intro rfl (Exists.intro [] (Exists.intro [] (Exists.intro [] (Exists.intro [] (Exists.intro [(0, some 0), (2, some 7)] (And.intro rfl (And.intro rfl (And.intro rfl (And.intro trivial (And.intro rfl (And.intro rfl trivial)))))))))))
    · dsimp only [sumF] at hF
      refine And.intro ?_ trivial
      have hy := someE hF
      subst hy
      refine And.intro rfl (Exists.intro [] (Exists.intro [] (Exists.intro [] (Exists.intro [] (Exists.intro [(0, some 0), (2, some 1)] (And.intro rfl (And.intro rfl (And.intro rfl (And.intro trivial (And.intro rfl (And.intro rfl trivial)))))))))))
theorem C30_holds : C30.Holds Try.prog 30 := holds_of_vc tab_ok mixed (fn := Try.f30) (by kernel_rfl) rfl C30 (fun x y hF => C30_vc x.1 x.2.1 x.2.2.1 x.2.2.2.1 x.2.2.2.2 y hF)
theorem f30_in : ∃ fn, Try.prog.funcs[30]? = some fn ∧ fn.body.isSome = true ∧ (fn.name == "runtime.NumGoroutine") = false := ⟨Try.f30, by kernel_rfl, by kernel_rfl, by kernel_rfl⟩
end Go.Proofs
namespace Go.Proofs
open Go.AM
-- (*carousel/loss.steps).do
def f19 (s_t_l : List (Int × Int × Int × Int × (List Int) × (List Int))) (s_was : Int) (s_e : Int) (op : Int) (a : Int) (b : Int) (k : Int) : Option (Int × Int × Int × (List (Int × Int × Int × Int × (List Int) × (List Int)))) :=
  bif (s_e != (0 : Int)) then
    some ((0 : Int), s_was, s_e, s_t_l)
  else
    bindF (f30 s_t_l op a b k) fun r1 =>
    some (r1.1, s_was, r1.2.1, r1.2.2)
def C19 : Con where
  X := (List (Int × Int × Int × Int × (List Int) × (List Int))) × Int × Int × Int × Int × Int × Int
  Y := Int × Int × Int × (List (Int × Int × Int × Int × (List Int) × (List Int)))
  e := 3
  args x := [.raw false [(.ptr 0 0)], .dat (.int .i64) x.2.2.2.1, .dat (.int .i64) x.2.2.2.2.1, .dat (.int .i64) x.2.2.2.2.2.1, .dat (.int .i64) x.2.2.2.2.2.2]
  hin x := [(0, .cells [(.ptr 1 0), (.d (.int .i64) x.2.1), (.d (.int .i64) x.2.2.1)]), (1, .cells [(.osl 2)]), (2, .arr 49 (.p (.int .i64) (.p (.int .i64) (.p (.int .i64) (.p (.int .i64) (.p (.sl (.int .i64)) (.sl (.int .i64))))))) x.1)]
  F x := f19 x.1 x.2.1 x.2.2.1 x.2.2.2.1 x.2.2.2.2.1 x.2.2.2.2.2.1 x.2.2.2.2.2.2
  ret y := [.dat (.int .i64) y.1]
  hout y := [(0, .cells [(.ptr 1 0), (.d (.int .i64) y.2.1), (.d (.int .i64) y.2.2.1)]), (1, .cells [(.osl 3)]), (3, .arr 49 (.p (.int .i64) (.p (.int .i64) (.p (.int .i64) (.p (.int .i64) (.p (.sl (.int .i64)) (.sl (.int .i64))))))) y.2.2.2)]
  nout := 4
theorem C19_vc (s_t_l : List (Int × Int × Int × Int × (List Int) × (List Int))) (s_was : Int) (s_e : Int) (op : Int) (a : Int) (b : Int) (k : Int) (y : Int × Int × Int × (List (Int × Int × Int × Int × (List Int) × (List Int)))) (hF : f19 s_t_l s_was s_e op a b k = some y) : vc Try.prog tab Try.f19.ntmps 3 (match Try.f19.body with | some c => c | none => .skip) (retK tab C19 Try.f19.results.toList y) (C19.shIn (s_t_l, s_was, s_e, op, a, b, k)).st := by
  unfold f19 at hF
  refine Or.inl ?_
  refine Or.inl ?_
  refine Or.inl ?_
  refine condI hF (fun hF => ?_) (fun hF => ?_)
  · refine Or.inl ?_
    have hy := someE hF
    subst hy
    refine And.intro rfl (Exists.intro [] (Exists.intro [] (Exists.intro [] (Exists.intro [] (Exists.intro [(0, some 0), (1, some 1), (3, some 2)] (And.intro rfl (And.intro rfl (And.intro trivial (And.intro rfl (And.intro rfl (And.intro rfl trivial)))))))))))
  · refine Or.inl ?_
    obtain ⟨r1, hr1, hF⟩ := bindE hF
    refine Or.inl (And.intro f30_in (callV0 (callI C30 (s_t_l, op, a, b, k) r1 [(0, some 1), (1, some 2)] false C30_holds hr1 rfl rfl ?_)))
    refine (And.intro rfl (And.intro rfl (And.intro rfl (And.intro rfl (And.intro (fun h => nomatch h) (And.intro rfl (And.intro rfl (And.intro (And.intro rfl trivial) (And.intro (And.intro rfl (And.intro rfl trivial)) ?_)))))))))
    refine Or.inl ?_
    refine Or.inl ?_
    refine Or.inl ?_
    have hy := someE hF
    subst hy
    refine And.intro rfl (Exists.intro [] (Exists.intro [] (Exists.intro [] (Exists.intro [] (Exists.intro [(0, some 0), (1, some 1), (3, some 5)] (And.intro rfl (And.intro rfl (And.intro trivial (And.intro rfl (And.intro rfl (And.intro rfl trivial)))))))))))
theorem C19_holds : C19.Holds Try.prog 19 := holds_of_vc tab_ok mixed (fn := Try.f19) (by kernel_rfl) rfl C19 (fun x y hF => C19_vc x.1 x.2.1 x.2.2.1 x.2.2.2.1 x.2.2.2.2.1 x.2.2.2.2.2.1 x.2.2.2.2.2.2 y hF)
theorem f19_in : ∃ fn, Try.prog.funcs[19]? = some fn ∧ fn.body.isSome = true ∧ (fn.name == "runtime.NumGoroutine") = false := ⟨Try.f19, by kernel_rfl, by kernel_rfl, by kernel_rfl⟩
end Go.Proofs
namespace Go.Proofs
open Go.AM
-- (*carousel/tape.Tape).Cut
def f31 (t_l : List (Int × Int × Int × Int × (List Int) × (List Int))) (n : Int) : Option (List (Int × Int × Int × Int × (List Int) × (List Int))) :=
  guardF (0 ≤ (if (List.length t_l : Int) < (if (0 : Int) > n then (0 : Int) else n) then (List.length t_l : Int) else (if (0 : Int) > n then (0 : Int) else n)) ∧ (if (List.length t_l : Int) < (if (0 : Int) > n then (0 : Int) else n) then (List.length t_l : Int) else (if (0 : Int) > n then (0 : Int) else n)) ≤ (List.length t_l : Int)) <|
  some (List.take (Int.toNat (if (List.length t_l : Int) < (if (0 : Int) > n then (0 : Int) else n) then (List.length t_l : Int) else (if (0 : Int) > n then (0 : Int) else n))) t_l)
def C31 : Con where
  X := (List (Int × Int × Int × Int × (List Int) × (List Int))) × Int
  Y := List (Int × Int × Int × Int × (List Int) × (List Int))
  e := 2
  args x := [.raw false [(.ptr 0 0)], .dat (.int .i64) x.2]
  hin x := [(0, .cells [(.osl 1)]), (1, .arr 49 (.p (.int .i64) (.p (.int .i64) (.p (.int .i64) (.p (.int .i64) (.p (.sl (.int .i64)) (.sl (.int .i64))))))) x.1)]
  F x := f31 x.1 x.2
  ret y := []
  hout y := [(0, .cells [(.osl 2)]), (2, .arr 49 (.p (.int .i64) (.p (.int .i64) (.p (.int .i64) (.p (.int .i64) (.p (.sl (.int .i64)) (.sl (.int .i64))))))) y)]
  nout := 3
theorem C31_vc (t_l : List (Int × Int × Int × Int × (List Int) × (List Int))) (n : Int) (y : List (Int × Int × Int × Int × (List Int) × (List Int))) (hF : f31 t_l n = some y) : vc Try.prog tab Try.f31.ntmps 2 (match Try.f31.body with | some c => c | none => .skip) (retK tab C31 Try.f31.results.toList y) (C31.shIn (t_l, n)).st := by
  unfold f31 at hF
  refine Exists.intro (.take 0 (.take 1 (.take 2 (.take 3 (.take 4 (.take 5 (.take 6 (.take 7 (.take 8 (.take 9 (.take 10 (.take 11 (.take 12 (.alt 13 (.take 14 (.take 15 (.alt 16 .done .done))) .done)))))))))))))) (Exists.intro [(16, [0])] (Exists.intro [] (And.intro rfl ?_)))
  refine And.intro trivial ?_
  refine Or.inr (Or.inr ?_)
  refine guardI hF (fun hF => ?_)
  refine And.intro trivial ?_
  refine Or.inl ?_
  have hy := someE hF
  subst hy
  refine And.intro rfl (Exists.intro [] (Exists.intro [] (Exists.intro [] (Exists.intro [] (Exists.intro [(0, some 0), (2, some 2)] (And.intro rfl (And.intro trivial (And.intro rfl (And.intro rfl trivial)))))))))
theorem C31_holds : C31.Holds Try.prog 31 := holds_of_vc tab_ok mixed (fn := Try.f31) (by kernel_rfl) rfl C31 (fun x y hF => C31_vc x.1 x.2 y hF)
theorem f31_in : ∃ fn, Try.prog.funcs[31]? = some fn ∧ fn.body.isSome = true ∧ (fn.name == "runtime.NumGoroutine") = false := ⟨Try.f31, by kernel_rfl, by kernel_rfl, by kernel_rfl⟩
end Go.Proofs
namespace Go.Proofs
open Go.AM
-- (*carousel/loss.steps).told
def f21 (s_t_l : List (Int × Int × Int × Int × (List Int) × (List Int))) (s_was : Int) (s_e : Int) (n : Int) : Option (Int × Int × Int × Int × (List (Int × Int × Int × Int × (List Int) × (List Int)))) :=
  bif (s_e != (0 : Int)) then
    bindF (f31 s_t_l s_was) fun q2_8 =>
    some ((0 : Int), s_e, s_was, s_e, q2_8)
  else
    some (n, (0 : Int), s_was, s_e, s_t_l)
def C21 : Con where
  X := (List (Int × Int × Int × Int × (List Int) × (List Int))) × Int × Int × Int
  Y := Int × Int × Int × Int × (List (Int × Int × Int × Int × (List Int) × (List Int)))
  e := 3
  args x := [.raw false [(.ptr 0 0)], .dat (.int .i64) x.2.2.2]
  hin x := [(0, .cells [(.ptr 1 0), (.d (.int .i64) x.2.1), (.d (.int .i64) x.2.2.1)]), (1, .cells [(.osl 2)]), (2, .arr 49 (.p (.int .i64) (.p (.int .i64) (.p (.int .i64) (.p (.int .i64) (.p (.sl (.int .i64)) (.sl (.int .i64))))))) x.1)]
  F x := f21 x.1 x.2.1 x.2.2.1 x.2.2.2
  ret y := [.dat (.int .i64) y.1, .dat (.int .i64) y.2.1]
  hout y := [(0, .cells [(.ptr 1 0), (.d (.int .i64) y.2.2.1), (.d (.int .i64) y.2.2.2.1)]), (1, .cells [(.osl 3)]), (3, .arr 49 (.p (.int .i64) (.p (.int .i64) (.p (.int .i64) (.p (.int .i64) (.p (.sl (.int .i64)) (.sl (.int .i64))))))) y.2.2.2.2)]
  nout := 4
theorem C21_vc (s_t_l : List (Int × Int × Int × Int × (List Int) × (List Int))) (s_was : Int) (s_e : Int) (n : Int) (y : Int × Int × Int × Int × (List (Int × Int × Int × Int × (List Int) × (List Int)))) (hF : f21 s_t_l s_was s_e n = some y) : vc Try.prog tab Try.f21.ntmps 3 (match Try.f21.body with | some c => c | none => .skip) (retK tab C21 Try.f21.results.toList y) (C21.shIn (s_t_l, s_was, s_e, n)).st := by
  unfold f21 at hF
  refine Or.inl ?_
  refine Or.inl ?_
  refine Or.inl ?_
  refine condI hF (fun hF => ?_) (fun hF => ?_)
  · refine Or.inl ?_
    refine Exists.intro (.take 0 (.take 1 (.take 2 (.take 3 (.take 4 (.take 5 (.take 6 (.take 7 (.alt 8 .done .done))))))))) (Exists.intro [] (Exists.intro [] (And.intro rfl ?_)))
    refine And.intro trivial ?_
    obtain ⟨q2_8, hq2_8, hF⟩ := bindE hF
    refine Or.inl (And.intro f31_in (callV0 (callI C31 (s_t_l, s_was) q2_8 [(0, some 1), (1, some 2)] false C31_holds hq2_8 rfl rfl ?_)))
    refine (And.intro rfl (And.intro (fun h => nomatch h) (And.intro rfl (And.intro rfl (And.intro (And.intro rfl trivial) (And.intro (And.intro rfl (And.intro rfl trivial)) ?_))))))
    refine Or.inl ?_
    refine Exists.intro (.take 0 (.take 1 (.take 2 (.take 3 (.take 4 (.take 5 .done)))))) (Exists.intro [] (Exists.intro [] (And.intro rfl ?_)))
    have hy := someE hF
    subst hy
    refine And.intro rfl (Exists.intro [] (Exists.intro [] (Exists.intro [] (Exists.intro [] (Exists.intro [(0, some 0), (1, some 1), (3, some 5)] (And.intro rfl (And.intro rfl (And.intro rfl (And.intro trivial (And.intro rfl (And.intro rfl (And.intro rfl trivial))))))))))))
  · refine Or.inl ?_
    have hy := someE hF
    subst hy
    refine And.intro rfl (Exists.intro [] (Exists.intro [] (Exists.intro [] (Exists.intro [] (Exists.intro [(0, some 0), (1, some 1), (3, some 2)] (And.intro rfl (And.intro rfl (And.intro rfl (And.intro trivial (And.intro rfl (And.intro rfl (And.intro rfl trivial))))))))))))
theorem C21_holds : C21.Holds Try.prog 21 := holds_of_vc tab_ok mixed (fn := Try.f21) (by kernel_rfl) rfl C21 (fun x y hF => C21_vc x.1 x.2.1 x.2.2.1 x.2.2.2 y hF)
theorem f21_in : ∃ fn, Try.prog.funcs[21]? = some fn ∧ fn.body.isSome = true ∧ (fn.name == "runtime.NumGoroutine") = false := ⟨Try.f21, by kernel_rfl, by kernel_rfl, by kernel_rfl⟩
end Go.Proofs
namespace Go.Proofs
open Go.AM
-- carousel/loss.Square
def f10 (t_l : List (Int × Int × Int × Int × (List Int) × (List Int))) (out : Int) (want : List Int) : Option (Int × Int × (List (Int × Int × Int × Int × (List Int) × (List Int)))) :=
  bindF (f17 t_l out want) fun r1 =>
  bif (r1.1 != (0 : Int)) then
    some ((0 : Int), r1.1, r1.2)
  else
    bindF (f18 r1.2) fun r2 =>
    bindF (f20 r2.2 r2.1 (0 : Int) want) fun r3 =>
    bindF (f19 r3.2.2.2 r3.2.1 r3.2.2.1 (3 : Int) out r3.1 (0 : Int)) fun r4 =>
    bindF (f19 r4.2.2.2 r4.2.1 r4.2.2.1 (4 : Int) r4.1 r4.1 (0 : Int)) fun r5 =>
    bindF (f19 r5.2.2.2 r5.2.1 r5.2.2.1 (10 : Int) r5.1 (0 : Int) (0 : Int)) fun r6 =>
    bindF (f21 r6.2.2.2 r6.2.1 r6.2.2.1 r6.1) fun r7 =>
    some (r7.1, r7.2.1, r7.2.2.2.2)
def C10 : Con where
  X := (List (Int × Int × Int × Int × (List Int) × (List Int))) × Int × (List Int)
  Y := Int × Int × (List (Int × Int × Int × Int × (List Int) × (List Int)))
  e := 2
  args x := [.raw false [(.ptr 0 0)], .dat (.int .i64) x.2.1, .dat (.sl (.int .i64)) x.2.2]
  hin x := [(0, .cells [(.osl 1)]), (1, .arr 49 (.p (.int .i64) (.p (.int .i64) (.p (.int .i64) (.p (.int .i64) (.p (.sl (.int .i64)) (.sl (.int .i64))))))) x.1)]
  F x := f10 x.1 x.2.1 x.2.2
  ret y := [.dat (.int .i64) y.1, .dat (.int .i64) y.2.1]
  hout y := [(0, .cells [(.osl 2)]), (2, .arr 49 (.p (.int .i64) (.p (.int .i64) (.p (.int .i64) (.p (.int .i64) (.p (.sl (.int .i64)) (.sl (.int .i64))))))) y.2.2)]
  nout := 3
theorem C10_vc (t_l : List (Int × Int × Int × Int × (List Int) × (List Int))) (out : Int) (want : List Int) (y : Int × Int × (List (Int × Int × Int × Int × (List Int) × (List Int)))) (hF : f10 t_l out want = some y) : vc Try.prog tab Try.f10.ntmps 2 (match Try.f10.body with | some c => c | none => .skip) (retK tab C10 Try.f10.results.toList y) (C10.shIn (t_l, out, want)).st := by
  unfold f10 at hF
  refine Or.inl ?_
  refine Or.inl ?_
  refine Or.inl ?_
  obtain ⟨r1, hr1, hF⟩ := bindE hF
  refine Or.inl (And.intro f17_in (callV0 (callI C17 (t_l, out, want) r1 [(0, some 0), (1, some 1)] false C17_holds hr1 rfl rfl ?_)))
  refine (And.intro rfl (And.intro rfl (And.intro (fun h => nomatch h) (And.intro rfl (And.intro rfl (And.intro (And.intro rfl trivial) (And.intro (And.intro rfl (And.intro rfl trivial)) ?_)))))))
  refine Or.inl ?_
  refine condI hF (fun hF => ?_) (fun hF => ?_)
  · refine Or.inl ?_
    have hy := someE hF
    subst hy
    refine And.intro rfl (Exists.intro [] (Exists.intro [] (Exists.intro [] (Exists.intro [] (Exists.intro [(0, some 0), (2, some 1)] (And.intro rfl (And.intro rfl (And.intro rfl (And.intro trivial (And.intro rfl (And.intro rfl trivial)))))))))))
  · refine Or.inl ?_
    obtain ⟨r2, hr2, hF⟩ := bindE hF
    refine Or.inl (And.intro f18_in (callV0 (callI C18 r1.2 r2 [(0, some 0), (1, some 1)] false C18_holds hr2 rfl rfl ?_)))
    refine (And.intro (fun h => nomatch h) (And.intro rfl (And.intro rfl (And.intro (And.intro rfl trivial) (And.intro (And.intro rfl (And.intro rfl trivial)) ?_)))))
    refine Or.inl ?_
    obtain ⟨r3, hr3, hF⟩ := bindE hF
    refine Or.inl (And.intro f20_in (callV0 (callI C20 (r2.2, r2.1, (0 : Int), want) r3 [(0, some 6), (1, some 0), (2, some 1)] false C20_holds hr3 rfl rfl ?_)))
    refine (And.intro rfl (And.intro (fun h => nomatch h) (And.intro rfl (And.intro rfl (And.intro (And.intro rfl trivial) (And.intro (And.intro rfl (And.intro rfl (And.intro rfl trivial))) ?_))))))
    obtain ⟨r4, hr4, hF⟩ := bindE hF
    refine Or.inl (And.intro f19_in (callV0 (callI C19 (r3.2.2.2, r3.2.1, r3.2.2.1, (3 : Int), out, r3.1, (0 : Int)) r4 [(0, some 6), (1, some 0), (2, some 10)] false C19_holds hr4 rfl rfl ?_)))
    refine (And.intro rfl (And.intro rfl (And.intro rfl (And.intro rfl (And.intro (fun h => nomatch h) (And.intro rfl (And.intro rfl (And.intro (And.intro rfl trivial) (And.intro (And.intro rfl (And.intro rfl (And.intro rfl trivial))) ?_)))))))))
    refine Or.inl ?_
    obtain ⟨r5, hr5, hF⟩ := bindE hF
    refine Or.inl (And.intro f19_in (callV0 (callI C19 (r4.2.2.2, r4.2.1, r4.2.2.1, (4 : Int), r4.1, r4.1, (0 : Int)) r5 [(0, some 6), (1, some 0), (2, some 14)] false C19_holds hr5 rfl rfl ?_)))
    refine (And.intro rfl (And.intro rfl (And.intro rfl (And.intro rfl (And.intro (fun h => nomatch h) (And.intro rfl (And.intro rfl (And.intro (And.intro rfl trivial) (And.intro (And.intro rfl (And.intro rfl (And.intro rfl trivial))) ?_)))))))))
    obtain ⟨r6, hr6, hF⟩ := bindE hF
    refine Or.inl (And.intro f19_in (callV0 (callI C19 (r5.2.2.2, r5.2.1, r5.2.2.1, (10 : Int), r5.1, (0 : Int), (0 : Int)) r6 [(0, some 6), (1, some 0), (2, some 18)] false C19_holds hr6 rfl rfl ?_)))
    refine (And.intro rfl (And.intro rfl (And.intro rfl (And.intro rfl (And.intro (fun h => nomatch h) (And.intro rfl (And.intro rfl (And.intro (And.intro rfl trivial) (And.intro (And.intro rfl (And.intro rfl (And.intro rfl trivial))) ?_)))))))))
    obtain ⟨r7, hr7, hF⟩ := bindE hF
    refine Or.inl (And.intro f21_in (callV0 (callI C21 (r6.2.2.2, r6.2.1, r6.2.2.1, r6.1) r7 [(0, some 6), (1, some 0), (2, some 22)] false C21_holds hr7 rfl rfl ?_)))
    refine (And.intro rfl (And.intro (fun h => nomatch h) (And.intro rfl (And.intro rfl (And.intro (And.intro rfl trivial) (And.intro (And.intro rfl (And.intro rfl (And.intro rfl trivial))) ?_))))))
    have hy := someE hF
    subst hy
    refine And.intro rfl (Exists.intro [] (Exists.intro [] (Exists.intro [] (Exists.intro [] (Exists.intro [(0, some 0), (2, some 26)] (And.intro rfl (And.intro rfl (And.intro rfl (And.intro trivial (And.intro rfl (And.intro rfl trivial)))))))))))
theorem C10_holds : C10.Holds Try.prog 10 := holds_of_vc tab_ok mixed (fn := Try.f10) (by kernel_rfl) rfl C10 (fun x y hF => C10_vc x.1 x.2.1 x.2.2 y hF)
theorem f10_in : ∃ fn, Try.prog.funcs[10]? = some fn ∧ fn.body.isSome = true ∧ (fn.name == "runtime.NumGoroutine") = false := ⟨Try.f10, by kernel_rfl, by kernel_rfl, by kernel_rfl⟩
end Go.Proofs
namespace Go.Proofs
open Go.AM
-- carousel/carousellaw13.awake
def f6 : Option Bool :=
  bindF (f7) fun r1 =>
  bindF (f9 ([(12884901888 : Int)])) fun r2 =>
  bindF (f8 ([]) (r2.2, r2.1)) fun r3 =>
  bindF (f10 r3.2.2 r3.1 ([(4294967296 : Int)])) fun r4 =>
  bindF (f12 r4.2.2 r4.1) fun r5 =>
  bif (r4.2.1 == (0 : Int)) then
    bif r5.1 then
      bif ((List.length r5.2.2.1 : Int) == (1 : Int)) then
        guardF (0 ≤ (0 : Int) ∧ (0 : Int) < (List.length r5.2.2.1 : Int)) <|
        some ((rd (0 : Int) r5.2.2.1 (0 : Int)) == (17179869184 : Int))
      else
        some false
    else
      some false
  else
    some false
def C6 : Con where
  X := Unit
  Y := Bool
  e := 0
  args x := []
  hin x := []
  F x := f6
  ret y := [.dat .bool y]
  hout y := []
  nout := 0
theorem C6_vc (y : Bool) (hF : f6 = some y) : vc Try.prog tab Try.f6.ntmps 0 (match Try.f6.body with | some c => c | none => .skip) (retK tab C6 Try.f6.results.toList y) (C6.shIn ()).st := by
  unfold f6 at hF
  refine Or.inl ?_
  refine Or.inl ?_
  obtain ⟨r1, hr1, hF⟩ := bindE hF
  refine Or.inl (And.intro f7_in (callV0 (callI C7 () r1 [] false C7_holds hr1 rfl rfl ?_)))
  refine (And.intro (fun h => nomatch h) (And.intro rfl (And.intro rfl (And.intro trivial (And.intro trivial ?_)))))
  refine Or.inl ?_
  refine Or.inl ?_
  obtain ⟨r2, hr2, hF⟩ := bindE hF
  refine Or.inl (And.intro f9_in (callV0 (callI C9 [(12884901888 : Int)] r2 [] false C9_holds hr2 rfl rfl ?_)))
  refine (And.intro rfl (And.intro (fun h => nomatch h) (And.intro rfl (And.intro rfl (And.intro trivial (And.intro trivial ?_))))))
  obtain ⟨r3, hr3, hF⟩ := bindE hF
  refine Or.inl (And.intro f8_in (callV0 (callI C8 ([], (r2.2, r2.1)) r3 [(0, some 0), (1, some 1)] false C8_holds hr3 rfl rfl ?_)))
  refine (And.intro rfl (And.intro rfl (And.intro (fun h => nomatch h) (And.intro rfl (And.intro rfl (And.intro (And.intro rfl trivial) (And.intro (And.intro rfl (And.intro rfl trivial)) ?_)))))))
  refine Or.inl ?_
  refine Or.inl ?_
  obtain ⟨r4, hr4, hF⟩ := bindE hF
  refine Or.inl (And.intro f10_in (callV0 (callI C10 (r3.2.2, r3.1, [(4294967296 : Int)]) r4 [(0, some 0), (1, some 6)] false C10_holds hr4 rfl rfl ?_)))
  refine (And.intro rfl (And.intro rfl (And.intro (fun h => nomatch h) (And.intro rfl (And.intro rfl (And.intro (And.intro rfl trivial) (And.intro (And.intro rfl (And.intro rfl trivial)) ?_)))))))
  refine Or.inl ?_
  obtain ⟨r5, hr5, hF⟩ := bindE hF
  refine Or.inl (And.intro f12_in (callV0 (callI C12 (r4.2.2, r4.1) r5 [(0, some 0), (1, some 10)] false C12_holds hr5 rfl rfl ?_)))
  refine (And.intro rfl (And.intro (fun h => nomatch h) (And.intro rfl (And.intro rfl (And.intro (And.intro rfl trivial) (And.intro (And.intro rfl (And.intro rfl trivial)) ?_))))))
  refine Or.inl ?_
  refine Or.inl ?_
  refine condI hF (fun hF => ?_) (fun hF => ?_)
  · refine condT ?_
    refine condI hF (fun hF => ?_) (fun hF => ?_)
    · refine gdYT ?_
      refine gdYT ?_
      refine gdYT ?_
      refine condT ?_
      refine condI hF (fun hF => ?_) (fun hF => ?_)
      · refine gdYT ?_
        refine gdYT ?_
        refine guardI hF (fun hF => ?_)
        refine gdYT ?_
        refine gdYT ?_
        refine condT ?_
        have hy := someE hF
        subst hy
        refine And.intro rfl (Exists.intro [] (Exists.intro [] (Exists.intro [] (Exists.intro [] (Exists.intro [] (And.intro rfl (And.intro rfl (And.intro trivial trivial))))))))
      · refine gdNT ?_
        refine gdNT ?_
        refine gdNT ?_
        refine gdNT ?_
        refine condF ?_
        have hy := someE hF
        subst hy
        refine And.intro rfl (Exists.intro [] (Exists.intro [] (Exists.intro [] (Exists.intro [] (Exists.intro [] (And.intro rfl (And.intro rfl (And.intro trivial trivial))))))))
    · refine gdNT ?_
      refine gdNT ?_
      refine gdNT ?_
      refine condF ?_
      refine gdNT ?_
      refine gdNT ?_
      refine gdNT ?_
      refine gdNT ?_
      refine gdNT ?_
      refine condF ?_
      have hy := someE hF
      subst hy
      refine And.intro rfl (Exists.intro [] (Exists.intro [] (Exists.intro [] (Exists.intro [] (Exists.intro [] (And.intro rfl (And.intro rfl (And.intro trivial trivial))))))))
  · refine condF ?_
    refine gdNT ?_
    refine gdNT ?_
    refine gdNT ?_
    refine gdNT ?_
    refine condF ?_
    refine gdNT ?_
    refine gdNT ?_
    refine gdNT ?_
    refine gdNT ?_
    refine gdNT ?_
    refine condF ?_
    have hy := someE hF
    subst hy
    refine And.intro rfl (Exists.intro [] (Exists.intro [] (Exists.intro [] (Exists.intro [] (Exists.intro [] (And.intro rfl (And.intro rfl (And.intro trivial trivial))))))))
theorem C6_holds : C6.Holds Try.prog 6 := holds_of_vc tab_ok mixed (fn := Try.f6) (by kernel_rfl) rfl C6 (fun x y hF => C6_vc y hF)
theorem f6_in : ∃ fn, Try.prog.funcs[6]? = some fn ∧ fn.body.isSome = true ∧ (fn.name == "runtime.NumGoroutine") = false := ⟨Try.f6, by kernel_rfl, by kernel_rfl, by kernel_rfl⟩
end Go.Proofs
namespace Go.Proofs
open Go.AM
-- carousel/loss.Hinge
def f13_j1 (class_ : Int) (r1 : Bool × (List Int) × (List Int) × (List (Int × Int × Int × Int × (List Int) × (List Int)))) : Option (Sum Unit Int) :=
  bif (!r1.1) then
    some (Sum.inr (1 : Int))
  else
    bif ((List.length r1.2.1 : Int) != (1 : Int)) then
      some (Sum.inr (4 : Int))
    else
      bif (decide (class_ < (0 : Int))) then
        some (Sum.inr (4 : Int))
      else
        bif (decide (class_ ≥ (List.length r1.2.2.1 : Int))) then
          some (Sum.inr (4 : Int))
        else
          some (Sum.inl ())
def f13 (t_l : List (Int × Int × Int × Int × (List Int) × (List Int))) (out : Int) (class_ : Int) : Option (Int × Int × (List (Int × Int × Int × Int × (List Int) × (List Int)))) :=
  bindF (f12 t_l out) fun r1 =>
  bindF (f13_j1 class_ r1) fun z2 =>
  sumF z2 (fun z2a =>
    bindF (f23 r1.2.1 (0 : Int)) fun r3 =>
    bindF (f24 ([(4294967296 : Int)]) (List.length r1.2.2.1 : Int)) fun r4 =>
    guardF (0 ≤ class_ ∧ class_ < (List.length r3.2.2 : Int)) <|
    guardF (0 ≤ class_ ∧ class_ < (List.length r4 : Int)) <|
    bindF (f18 r1.2.2.2) fun r5 =>
    bindF (f20 r5.2 r5.1 (0 : Int) (List.set r3.2.2 (Int.toNat class_) (-4294967296 : Int))) fun r6 =>
    bindF (f20 r6.2.2.2 r6.2.1 r6.2.2.1 (List.set r4 (Int.toNat class_) (0 : Int))) fun r7 =>
    bindF (f19 r7.2.2.2 r7.2.1 r7.2.2.1 (4 : Int) out r6.1 (0 : Int)) fun r8 =>
    bindF (f19 r8.2.2.2 r8.2.1 r8.2.2.1 (9 : Int) r8.1 (0 : Int) (0 : Int)) fun r9 =>
    bindF (f19 r9.2.2.2 r9.2.1 r9.2.2.1 (2 : Int) out r9.1 (0 : Int)) fun r10 =>
    bindF (f19 r10.2.2.2 r10.2.1 r10.2.2.1 (2 : Int) r10.1 r7.1 (0 : Int)) fun r11 =>
    bindF (f19 r11.2.2.2 r11.2.1 r11.2.2.1 (11 : Int) r11.1 (0 : Int) (1 : Int)) fun r12 =>
    bindF (f19 r12.2.2.2 r12.2.1 r12.2.2.1 (4 : Int) r12.1 r7.1 (0 : Int)) fun r13 =>
    bindF (f19 r13.2.2.2 r13.2.1 r13.2.2.1 (9 : Int) r13.1 (0 : Int) (0 : Int)) fun r14 =>
    bindF (f21 r14.2.2.2 r14.2.1 r14.2.2.1 r14.1) fun r15 =>
    some (r15.1, r15.2.1, r15.2.2.2.2)) (fun z2b =>
    some ((0 : Int), z2b, r1.2.2.2))
def C13 : Con where
  X := (List (Int × Int × Int × Int × (List Int) × (List Int))) × Int × Int
  Y := Int × Int × (List (Int × Int × Int × Int × (List Int) × (List Int)))
  e := 2
  args x := [.raw false [(.ptr 0 0)], .dat (.int .i64) x.2.1, .dat (.int .i64) x.2.2]
  hin x := [(0, .cells [(.osl 1)]), (1, .arr 49 (.p (.int .i64) (.p (.int .i64) (.p (.int .i64) (.p (.int .i64) (.p (.sl (.int .i64)) (.sl (.int .i64))))))) x.1)]
  F x := f13 x.1 x.2.1 x.2.2
  ret y := [.dat (.int .i64) y.1, .dat (.int .i64) y.2.1]
  hout y := [(0, .cells [(.osl 2)]), (2, .arr 49 (.p (.int .i64) (.p (.int .i64) (.p (.int .i64) (.p (.int .i64) (.p (.sl (.int .i64)) (.sl (.int .i64))))))) y.2.2)]
  nout := 3
theorem C13_vc (t_l : List (Int × Int × Int × Int × (List Int) × (List Int))) (out : Int) (class_ : Int) (y : Int × Int × (List (Int × Int × Int × Int × (List Int) × (List Int)))) (hF : f13 t_l out class_ = some y) : vc Try.prog tab Try.f13.ntmps 2 (match Try.f13.body with | some c => c | none => .skip) (retK tab C13 Try.f13.results.toList y) (C13.shIn (t_l, out, class_)).st := by
  unfold f13 at hF
  refine Or.inl ?_
  refine Or.inl ?_
  obtain ⟨r1, hr1, hF⟩ := bindE hF
  refine Or.inl (And.intro f12_in (callV0 (callI C12 (t_l, out) r1 [(0, some 0), (1, some 1)] false C12_holds hr1 rfl rfl ?_)))
  refine (And.intro rfl (And.intro (fun h => nomatch h) (And.intro rfl (And.intro rfl (And.intro (And.intro rfl trivial) (And.intro (And.intro rfl (And.intro rfl trivial)) ?_))))))
  refine Or.inl ?_
  obtain ⟨z2, hz2, hF⟩ := bindE hF
  refine Or.inr ⟨Sum.elim (fun z2a => [(0, ⟨[(0, .raw false [(.ptr 0 0)]), (1, .dat (.int .i64) out), (2, .dat (.int .i64) class_), (8, .raw false [(.ptr 2 0)])], [(0, .cells [(.osl 1)]), (1, .arr 49 (.p (.int .i64) (.p (.int .i64) (.p (.int .i64) (.p (.int .i64) (.p (.sl (.int .i64)) (.sl (.int .i64))))))) r1.2.2.2), (2, .cells [(.osl 3), (.osl 4)]), (3, .arr 3 (.int .i64) r1.2.1), (4, .arr 24 (.int .i64) r1.2.2.1)], 5⟩)]) (fun z2b => [(1, ⟨[(6, .dat (.int .i64) (0 : Int)), (7, .dat (.int .i64) z2b)], [(0, .cells [(.osl 1)]), (1, .arr 49 (.p (.int .i64) (.p (.int .i64) (.p (.int .i64) (.p (.int .i64) (.p (.sl (.int .i64)) (.sl (.int .i64))))))) r1.2.2.2)], 2⟩)]) z2, ?_, ?_⟩
  · have hF := hz2
    clear hz2
    unfold f13_j1 at hF
    refine Or.inl ?_
    refine condI hF (fun hF => ?_) (fun hF => ?_)
    · refine Or.inl ?_
      have hz := someE hF
      subst hz
      refine Exists.intro [] (Exists.intro [] (Exists.intro [] (Exists.intro [] (Exists.intro [(0, some 0), (1, some 1)] (And.intro rfl (And.intro rfl (And.intro rfl (And.intro trivial (And.intro rfl (And.intro rfl trivial))))))))))
    · refine Or.inl ?_
      refine condN hF (fun hF => ?_) (fun hF => ?_)
      · refine gdYF ?_
        refine condF ?_
        refine condN hF (fun hF => ?_) (fun hF => ?_)
        · refine gdYF ?_
          refine gdYF ?_
          refine gdYF ?_
          refine gdYF ?_
          refine condF ?_
          refine condI hF (fun hF => ?_) (fun hF => ?_)
          · refine Or.inl ?_
            have hz := someE hF
            subst hz
            refine Exists.intro [] (Exists.intro [] (Exists.intro [] (Exists.intro [] (Exists.intro [(0, some 0), (1, some 1)] (And.intro rfl (And.intro rfl (And.intro rfl (And.intro trivial (And.intro rfl (And.intro rfl trivial))))))))))
          · have hz := someE hF
            subst hz
            refine Exists.intro [] (Exists.intro [] (Exists.intro [] (Exists.intro [] (Exists.intro [(0, some 0), (1, some 1), (2, some 6), (3, some 4), (4, some 5)] (And.intro rfl (And.intro rfl (And.intro rfl (And.intro (And.intro rfl (And.intro rfl trivial)) (And.intro rfl (And.intro rfl (And.intro rfl (And.intro rfl (And.intro rfl trivial)))))))))))))
        · refine gdNF ?_
          refine gdNF ?_
          refine gdNF ?_
          refine gdNF ?_
          refine condT ?_
          refine condT ?_
          refine Or.inl ?_
          have hz := someE hF
          subst hz
          refine Exists.intro [] (Exists.intro [] (Exists.intro [] (Exists.intro [] (Exists.intro [(0, some 0), (1, some 1)] (And.intro rfl (And.intro rfl (And.intro rfl (And.intro trivial (And.intro rfl (And.intro rfl trivial))))))))))
      · refine gdNF ?_
        refine condT ?_
        refine gdNF ?_
        refine gdNF ?_
        refine gdNF ?_
        refine gdNF ?_
        refine gdNF ?_
        refine condT ?_
        refine condT ?_
        refine Or.inl ?_
        have hz := someE hF
        subst hz
        refine Exists.intro [] (Exists.intro [] (Exists.intro [] (Exists.intro [] (Exists.intro [(0, some 0), (1, some 1)] (And.intro rfl (And.intro rfl (And.intro rfl (And.intro trivial (And.intro rfl (And.intro rfl trivial))))))))))
  · rcases z2 with z2a | z2b
    · dsimp only [sumF] at hF
      refine And.intro ?_ trivial
      refine Or.inl ?_
      obtain ⟨r3, hr3, hF⟩ := bindE hF
      refine Or.inl (And.intro f23_in (callV0 (callI C23 (r1.2.1, (0 : Int)) r3 [] true C23_holds hr3 rfl rfl ?_)))
      refine (And.intro rfl (And.intro rfl (And.intro (fun _ => rfl) (And.intro rfl (And.intro rfl (And.intro trivial (And.intro trivial ?_)))))))
      refine Or.inl ?_
      refine Or.inl ?_
      refine Or.inl ?_
      obtain ⟨r4, hr4, hF⟩ := bindE hF
      refine Or.inl (And.intro f24_in (callV0 (callI C24 ([(4294967296 : Int)], (List.length r1.2.2.1 : Int)) r4 [] true C24_holds hr4 rfl rfl ?_)))
      refine (And.intro rfl (And.intro rfl (And.intro (fun _ => rfl) (And.intro rfl (And.intro rfl (And.intro trivial (And.intro trivial ?_)))))))
      refine Or.inl ?_
      refine guardI hF (fun hF => ?_)
      refine Or.inl ?_
      refine guardI hF (fun hF => ?_)
      refine Or.inl ?_
      refine Or.inl ?_
      obtain ⟨r5, hr5, hF⟩ := bindE hF
      refine Or.inl (And.intro f18_in (callV0 (callI C18 r1.2.2.2 r5 [(0, some 0), (1, some 1)] false C18_holds hr5 rfl rfl ?_)))
      refine (And.intro (fun h => nomatch h) (And.intro rfl (And.intro rfl (And.intro (And.intro rfl trivial) (And.intro (And.intro rfl (And.intro rfl trivial)) ?_)))))
      refine Or.inl ?_
      obtain ⟨r6, hr6, hF⟩ := bindE hF
      have hr6 : C20.F (r5.2, r5.1, (0 : Int), (List.set r3.2.2 (Int.toNat class_) (-4294967296 : Int))) = some r6 := hr6
      refine Or.inl (And.intro f20_in (callV0 (callI C20 _ r6 [(0, some 12), (1, some 0), (2, some 1)] false C20_holds hr6 rfl rfl ?_)))
      refine (And.intro rfl (And.intro (fun h => nomatch h) (And.intro rfl (And.intro rfl (And.intro (And.intro rfl trivial) (And.intro (And.intro rfl (And.intro rfl (And.intro rfl trivial))) ?_))))))
      refine Or.inl ?_
      obtain ⟨r7, hr7, hF⟩ := bindE hF
      refine Or.inl (And.intro f20_in (callV0 (callI C20 (r6.2.2.2, r6.2.1, r6.2.2.1, (List.set r4 (Int.toNat class_) (0 : Int))) r7 [(0, some 12), (1, some 0), (2, some 16)] false C20_holds hr7 rfl rfl ?_)))
      refine (And.intro rfl (And.intro (fun h => nomatch h) (And.intro rfl (And.intro rfl (And.intro (And.intro rfl trivial) (And.intro (And.intro rfl (And.intro rfl (And.intro rfl trivial))) ?_))))))
      refine Or.inl ?_
      obtain ⟨r8, hr8, hF⟩ := bindE hF
      refine Or.inl (And.intro f19_in (callV0 (callI C19 (r7.2.2.2, r7.2.1, r7.2.2.1, (4 : Int), out, r6.1, (0 : Int)) r8 [(0, some 12), (1, some 0), (2, some 20)] false C19_holds hr8 rfl rfl ?_)))
      refine (And.intro rfl (And.intro rfl (And.intro rfl (And.intro rfl (And.intro (fun h => nomatch h) (And.intro rfl (And.intro rfl (And.intro (And.intro rfl trivial) (And.intro (And.intro rfl (And.intro rfl (And.intro rfl trivial))) ?_)))))))))
      obtain ⟨r9, hr9, hF⟩ := bindE hF
      refine Or.inl (And.intro f19_in (callV0 (callI C19 (r8.2.2.2, r8.2.1, r8.2.2.1, (9 : Int), r8.1, (0 : Int), (0 : Int)) r9 [(0, some 12), (1, some 0), (2, some 24)] false C19_holds hr9 rfl rfl ?_)))
      refine (And.intro rfl (And.intro rfl (And.intro rfl (And.intro rfl (And.intro (fun h => nomatch h) (And.intro rfl (And.intro rfl (And.intro (And.intro rfl trivial) (And.intro (And.intro rfl (And.intro rfl (And.intro rfl trivial))) ?_)))))))))
      refine Or.inl ?_
      obtain ⟨r10, hr10, hF⟩ := bindE hF
      refine Or.inl (And.intro f19_in (callV0 (callI C19 (r9.2.2.2, r9.2.1, r9.2.2.1, (2 : Int), out, r9.1, (0 : Int)) r10 [(0, some 12), (1, some 0), (2, some 28)] false C19_holds hr10 rfl rfl ?_)))
      refine (And.intro rfl (And.intro rfl (And.intro rfl (And.intro rfl (And.intro (fun h => nomatch h) (And.intro rfl (And.intro rfl (And.intro (And.intro rfl trivial) (And.intro (And.intro rfl (And.intro rfl (And.intro rfl trivial))) ?_)))))))))
      obtain ⟨r11, hr11, hF⟩ := bindE hF
      refine Or.inl (And.intro f19_in (callV0 (callI C19 (r10.2.2.2, r10.2.1, r10.2.2.1, (2 : Int), r10.1, r7.1, (0 : Int)) r11 [(0, some 12), (1, some 0), (2, some 32)] false C19_holds hr11 rfl rfl ?_)))
      refine (And.intro rfl (And.intro rfl (And.intro rfl (And.intro rfl (And.intro (fun h => nomatch h) (And.intro rfl (And.intro rfl (And.intro (And.intro rfl trivial) (And.intro (And.intro rfl (And.intro rfl (And.intro rfl trivial))) ?_)))))))))
      refine Or.inl ?_
      obtain ⟨r12, hr12, hF⟩ := bindE hF
      refine Or.inl (And.intro f19_in (callV0 (callI C19 (r11.2.2.2, r11.2.1, r11.2.2.1, (11 : Int), r11.1, (0 : Int), (1 : Int)) r12 [(0, some 12), (1, some 0), (2, some 36)] false C19_holds hr12 rfl rfl ?_)))
      refine (And.intro rfl (And.intro rfl (And.intro rfl (And.intro rfl (And.intro (fun h => nomatch h) (And.intro rfl (And.intro rfl (And.intro (And.intro rfl trivial) (And.intro (And.intro rfl (And.intro rfl (And.intro rfl trivial))) ?_)))))))))
      obtain ⟨r13, hr13, hF⟩ := bindE hF
      refine Or.inl (And.intro f19_in (callV0 (callI C19 (r12.2.2.2, r12.2.1, r12.2.2.1, (4 : Int), r12.1, r7.1, (0 : Int)) r13 [(0, some 12), (1, some 0), (2, some 40)] false C19_holds hr13 rfl rfl ?_)))
      refine (And.intro rfl (And.intro rfl (And.intro rfl (And.intro rfl (And.intro (fun h => nomatch h) (And.intro rfl (And.intro rfl (And.intro (And.intro rfl trivial) (And.intro (And.intro rfl (And.intro rfl (And.intro rfl trivial))) ?_)))))))))
      obtain ⟨r14, hr14, hF⟩ := bindE hF
      refine Or.inl (And.intro f19_in (callV0 (callI C19 (r13.2.2.2, r13.2.1, r13.2.2.1, (9 : Int), r13.1, (0 : Int), (0 : Int)) r14 [(0, some 12), (1, some 0), (2, some 44)] false C19_holds hr14 rfl rfl ?_)))
      refine (And.intro rfl (And.intro rfl (And.intro rfl (And.intro rfl (And.intro (fun h => nomatch h) (And.intro rfl (And.intro rfl (And.intro (And.intro rfl trivial) (And.intro (And.intro rfl (And.intro rfl (And.intro rfl trivial))) ?_)))))))))
      obtain ⟨r15, hr15, hF⟩ := bindE hF
      refine Or.inl (And.intro f21_in (callV0 (callI C21 (r14.2.2.2, r14.2.1, r14.2.2.1, r14.1) r15 [(0, some 12), (1, some 0), (2, some 48)] false C21_holds hr15 rfl rfl ?_)))
      refine (And.intro rfl (And.intro (fun h => nomatch h) (And.intro rfl (And.intro rfl (And.intro (And.intro rfl trivial) (And.intro (And.intro rfl (And.intro rfl (And.intro rfl trivial))) ?_))))))
      have hy := someE hF
      subst hy
      refine And.intro rfl (Exists.intro [] (Exists.intro [] (Exists.intro [] (Exists.intro [] (Exists.intro [(0, some 0), (2, some 52)] (And.intro rfl (And.intro rfl (And.intro rfl (And.intro trivial (And.intro rfl (And.intro rfl trivial)))))))))))
    · dsimp only [sumF] at hF
      refine And.intro ?_ trivial
      have hy := someE hF
      subst hy
      refine And.intro rfl (Exists.intro [] (Exists.intro [] (Exists.intro [] (Exists.intro [] (Exists.intro [(0, some 0), (2, some 1)] (And.intro rfl (And.intro rfl (And.intro rfl (And.intro trivial (And.intro rfl (And.intro rfl trivial)))))))))))
theorem C13_holds : C13.Holds Try.prog 13 := holds_of_vc tab_ok mixed (fn := Try.f13) (by kernel_rfl) rfl C13 (fun x y hF => C13_vc x.1 x.2.1 x.2.2 y hF)
theorem f13_in : ∃ fn, Try.prog.funcs[13]? = some fn ∧ fn.body.isSome = true ∧ (fn.name == "runtime.NumGoroutine") = false := ⟨Try.f13, by kernel_rfl, by kernel_rfl, by kernel_rfl⟩
end Go.Proofs
namespace Go.Proofs
open Go.AM
-- carousel/carousellaw13.LossHinges
def f4_j1 (l : List Int) (class_ : Int) : Option (Sum Unit Unit) :=
  bif (decide ((List.length l : Int) < (1 : Int))) then
    some (Sum.inr ())
  else
    bif (decide ((List.length l : Int) > (40 : Int))) then
      some (Sum.inr ())
    else
      bif (decide (class_ < (0 : Int))) then
        some (Sum.inr ())
      else
        bif (decide (class_ ≥ (List.length l : Int))) then
          some (Sum.inr ())
        else
          some (Sum.inl ())
def f4_l2 (l : List Int) (class_ : Int) (go : (Bool × Int × (List Int)) → Option (Bool × (List Int))) (most : Bool) (i : Int) (l0 : List Int) : Option (Bool × (List Int)) :=
  bif (decide (i < (List.length l : Int))) then
    guardF (0 ≤ i ∧ i < (List.length l : Int)) <|
    guardF ((List.length l0 + List.length ([(IntKind.i64.wrap ((IntKind.i64.wrap (rd (0 : Int) l i)) * (4294967296 : Int)))])) * 8 ≤ 140737488355328) <|
    bif most then
      bif (i == class_) then
        go (true, (IntKind.i64.wrap (i + (1 : Int))), (l0 ++ ([(IntKind.i64.wrap ((IntKind.i64.wrap (rd (0 : Int) l i)) * (4294967296 : Int)))])))
      else
        guardF (0 ≤ class_ ∧ class_ < (List.length l : Int)) <|
        guardF (0 ≤ i ∧ i < (List.length l : Int)) <|
        go ((decide ((IntKind.i64.wrap ((IntKind.i64.wrap (rd (0 : Int) l class_)) - (IntKind.i64.wrap (rd (0 : Int) l i)))) ≥ (1 : Int))), (IntKind.i64.wrap (i + (1 : Int))), (l0 ++ ([(IntKind.i64.wrap ((IntKind.i64.wrap (rd (0 : Int) l i)) * (4294967296 : Int)))])))
    else
      go (false, (IntKind.i64.wrap (i + (1 : Int))), (l0 ++ ([(IntKind.i64.wrap ((IntKind.i64.wrap (rd (0 : Int) l i)) * (4294967296 : Int)))])))
  else
    some (most, l0)
def f4 (l : List Int) (class_ : Int) : Option Bool :=
  bindF (f6) fun r1 =>
  bif (!r1) then
    some false
  else
    bindF (f4_j1 l class_) fun z2 =>
    sumF z2 (fun z2a =>
      bindF (loopF (fun go x => f4_l2 l class_ go x.1 x.2.1 x.2.2) fuelN (true, (0 : Int), [])) fun z3 =>
      bindF (f7) fun q11_20 =>
      bindF (f9 z3.2) fun r4 =>
      bindF (f8 ([]) (r4.2, r4.1)) fun r5 =>
      bindF (f13 r5.2.2 r5.1 class_) fun r6 =>
      bindF (f12 r6.2.2 r6.1) fun r7 =>
      bif (r6.2.1 == (0 : Int)) then
        bif r7.1 then
          guardF (0 ≤ (0 : Int) ∧ (0 : Int) < (List.length r7.2.2.1 : Int)) <|
          bif (((rd (0 : Int) r7.2.2.1 (0 : Int)) == (0 : Int)) == z3.1) then
            guardF (0 ≤ (0 : Int) ∧ (0 : Int) < (List.length r7.2.2.1 : Int)) <|
            some (decide ((rd (0 : Int) r7.2.2.1 (0 : Int)) ≥ (0 : Int)))
          else
            some false
        else
          some false
      else
        some false) (fun z2b =>
      some true)
def C4 : Con where
  X := (List Int) × Int
  Y := Bool
  e := 0
  args x := [.dat (.sl (.int .i16)) x.1, .dat (.int .i64) x.2]
  hin x := []
  F x := f4 x.1 x.2
  ret y := [.dat .bool y]
  hout y := []
  nout := 0
theorem C4_vc (l : List Int) (class_ : Int) (y : Bool) (hF : f4 l class_ = some y) : vc Try.prog tab Try.f4.ntmps 0 (match Try.f4.body with | some c => c | none => .skip) (retK tab C4 Try.f4.results.toList y) (C4.shIn (l, class_)).st := by
  unfold f4 at hF
  refine Or.inl ?_
  refine Or.inl ?_
  refine Or.inl ?_
  obtain ⟨r1, hr1, hF⟩ := bindE hF
  refine Or.inl (And.intro f6_in (callV0 (callI C6 () r1 [] false C6_holds hr1 rfl rfl ?_)))
  refine (And.intro (fun h => nomatch h) (And.intro rfl (And.intro rfl (And.intro trivial (And.intro trivial ?_)))))
  refine condI hF (fun hF => ?_) (fun hF => ?_)
  · refine Or.inl ?_
    have hy := someE hF
    subst hy
    refine And.intro rfl (Exists.intro [] (Exists.intro [] (Exists.intro [] (Exists.intro [] (Exists.intro [] (And.intro rfl (And.intro rfl (And.intro trivial trivial))))))))
  · obtain ⟨z2, hz2, hF⟩ := bindE hF
    refine Or.inr ⟨Sum.elim (fun z2a => [(0, ⟨[(0, .dat (.sl (.int .i16)) l), (1, .dat (.int .i64) class_)], [], 0⟩)]) (fun z2b => [(1, ⟨[(4, .dat .bool true)], [], 0⟩)]) z2, ?_, ?_⟩
    · have hF := hz2
      clear hz2
      unfold f4_j1 at hF
      refine Or.inl ?_
      refine condN hF (fun hF => ?_) (fun hF => ?_)
      · refine gdYF ?_
        refine gdYF ?_
        refine condF ?_
        refine condN hF (fun hF => ?_) (fun hF => ?_)
        · refine gdYF ?_
          refine condF ?_
          refine condN hF (fun hF => ?_) (fun hF => ?_)
          · refine gdYF ?_
            refine gdYF ?_
            refine gdYF ?_
            refine condF ?_
            refine condI hF (fun hF => ?_) (fun hF => ?_)
            · refine Or.inl ?_
              have hz := someE hF
              subst hz
              refine Exists.intro [] (Exists.intro [] (Exists.intro [] (Exists.intro [] (Exists.intro [] (And.intro rfl (And.intro rfl (And.intro trivial trivial)))))))
            · have hz := someE hF
              subst hz
              refine Exists.intro [] (Exists.intro [] (Exists.intro [] (Exists.intro [] (Exists.intro [] (And.intro rfl (And.intro rfl (And.intro rfl (And.intro trivial trivial))))))))
          · refine gdNF ?_
            refine gdNF ?_
            refine gdNF ?_
            refine condT ?_
            refine condT ?_
            refine Or.inl ?_
            have hz := someE hF
            subst hz
            refine Exists.intro [] (Exists.intro [] (Exists.intro [] (Exists.intro [] (Exists.intro [] (And.intro rfl (And.intro rfl (And.intro trivial trivial)))))))
        · refine gdNF ?_
          refine condT ?_
          refine gdNF ?_
          refine gdNF ?_
          refine gdNF ?_
          refine gdNF ?_
          refine condT ?_
          refine condT ?_
          refine Or.inl ?_
          have hz := someE hF
          subst hz
          refine Exists.intro [] (Exists.intro [] (Exists.intro [] (Exists.intro [] (Exists.intro [] (And.intro rfl (And.intro rfl (And.intro trivial trivial)))))))
      · refine gdNF ?_
        refine gdNF ?_
        refine condT ?_
        refine gdNF ?_
        refine gdNF ?_
        refine condT ?_
        refine gdNF ?_
        refine gdNF ?_
        refine gdNF ?_
        refine gdNF ?_
        refine condT ?_
        refine condT ?_
        refine Or.inl ?_
        have hz := someE hF
        subst hz
        refine Exists.intro [] (Exists.intro [] (Exists.intro [] (Exists.intro [] (Exists.intro [] (And.intro rfl (And.intro rfl (And.intro trivial trivial)))))))
    · rcases z2 with z2a | z2b
      · dsimp only [sumF] at hF
        refine And.intro ?_ trivial
        refine Or.inl ?_
        refine Or.inl ?_
        refine Or.inl ?_
        refine Or.inl ?_
        obtain ⟨z3, hz3, hF⟩ := bindE hF
        refine loopI (Bool × Int × (List Int)) (Bool × (List Int)) (fun x => ⟨[(0, .dat (.sl (.int .i16)) l), (1, .dat (.int .i64) class_), (5, .raw false [(.osl 0)]), (6, .dat .bool x.1), (7, .dat (.int .i64) x.2.1)], [(0, .arr 24 (.int .i64) x.2.2)], 1⟩) (fun z => [(2, ⟨[(1, .dat (.int .i64) class_), (5, .raw false [(.osl 0)]), (6, .dat .bool z.1)], [(0, .arr 24 (.int .i64) z.2)], 1⟩)]) (loopF (fun go x => f4_l2 l class_ go x.1 x.2.1 x.2.2)) fuelN (true, (0 : Int), []) z3 (And.intro hz3 (And.intro (Exists.intro [] (Exists.intro [] (Exists.intro [] (Exists.intro [] (Exists.intro [(0, none)] (And.intro rfl (And.intro rfl (And.intro rfl (And.intro rfl (And.intro rfl (And.intro (And.intro rfl trivial) (And.intro rfl trivial)))))))))))) (And.intro (fun _ _ h => loopZ h) (And.intro (fun m => curI (fun most => curI (fun i => fun l0 z hF => ?_))) ?_))))
        · have hF : f4_l2 l class_ (loopF (fun go x => f4_l2 l class_ go x.1 x.2.1 x.2.2) m) most i l0 = some z := hF
          unfold f4_l2 at hF
          refine Or.inl ?_
          refine Or.inl ?_
          refine condI hF (fun hF => ?_) (fun hF => ?_)
          · refine Or.inl ?_
            refine Or.inl ?_
            refine guardI hF (fun hF => ?_)
            refine Or.inl ?_
            refine Or.inl ?_
            refine guardI hF (fun hF => ?_)
            refine Exists.intro (.take 0 (.take 1 (.take 2 (.take 3 (.take 4 (.take 5 (.take 6 (.take 7 (.take 8 (.take 9 (.take 10 (.take 11 (.take 12 (.take 13 (.take 14 (.take 15 (.take 16 (.take 17 (.take 18 (.take 19 (.take 20 .done))))))))))))))))))))) (Exists.intro [] (Exists.intro [] (And.intro rfl ?_)))
            refine condI hF (fun hF => ?_) (fun hF => ?_)
            · refine gdYT ?_
              refine gdYT ?_
              refine gdYT ?_
              refine condN hF (fun hF => ?_) (fun hF => ?_)
              · refine gdYF ?_
                refine gdYF ?_
                refine guardI hF (fun hF => ?_)
                refine gdYF ?_
                refine gdYF ?_
                refine gdYF ?_
                refine gdYF ?_
                refine gdYF ?_
                refine guardI hF (fun hF => ?_)
                refine gdYF ?_
                refine gdYF ?_
                refine gdYF ?_
                refine gdYF ?_
                refine gdYT ?_
                refine condF ?_
                refine condT ?_
                refine Exists.intro ((decide ((IntKind.i64.wrap ((IntKind.i64.wrap (rd (0 : Int) l class_)) - (IntKind.i64.wrap (rd (0 : Int) l i)))) ≥ (1 : Int))), (IntKind.i64.wrap (i + (1 : Int))), (l0 ++ ([(IntKind.i64.wrap ((IntKind.i64.wrap (rd (0 : Int) l i)) * (4294967296 : Int)))]))) (And.intro hF (Exists.intro [] (Exists.intro [] (Exists.intro [] (Exists.intro [] (Exists.intro [(0, some 2)] (And.intro rfl (And.intro rfl (And.intro rfl (And.intro rfl (And.intro rfl (And.intro (And.intro rfl trivial) (And.intro rfl trivial)))))))))))))
              · refine gdNF ?_
                refine gdNF ?_
                refine gdNF ?_
                refine gdNF ?_
                refine gdNF ?_
                refine gdNF ?_
                refine gdNF ?_
                refine gdNF ?_
                refine gdNF ?_
                refine gdNF ?_
                refine gdNF ?_
                refine gdYT ?_
                refine condT ?_
                refine condT ?_
                refine Exists.intro (true, (IntKind.i64.wrap (i + (1 : Int))), (l0 ++ ([(IntKind.i64.wrap ((IntKind.i64.wrap (rd (0 : Int) l i)) * (4294967296 : Int)))]))) (And.intro hF (Exists.intro [] (Exists.intro [] (Exists.intro [] (Exists.intro [] (Exists.intro [(0, some 2)] (And.intro rfl (And.intro rfl (And.intro rfl (And.intro rfl (And.intro rfl (And.intro (And.intro rfl trivial) (And.intro rfl trivial)))))))))))))
            · refine gdNT ?_
              refine gdNT ?_
              refine gdNT ?_
              refine gdNT ?_
              refine condF ?_
              refine Exists.intro (false, (IntKind.i64.wrap (i + (1 : Int))), (l0 ++ ([(IntKind.i64.wrap ((IntKind.i64.wrap (rd (0 : Int) l i)) * (4294967296 : Int)))]))) (And.intro hF (Exists.intro [] (Exists.intro [] (Exists.intro [] (Exists.intro [] (Exists.intro [(0, some 2)] (And.intro rfl (And.intro rfl (And.intro rfl (And.intro rfl (And.intro rfl (And.intro (And.intro rfl trivial) (And.intro rfl trivial)))))))))))))
          · have hz := someE hF
            subst hz
            refine Exists.intro [] (Exists.intro [] (Exists.intro [] (Exists.intro [] (Exists.intro [(0, some 0)] (And.intro rfl (And.intro rfl (And.intro rfl (And.intro (And.intro rfl trivial) (And.intro rfl trivial)))))))))
        · refine And.intro ?_ trivial
          refine Or.inl ?_
          obtain ⟨q11_20, hq11_20, hF⟩ := bindE hF
          refine Or.inl (And.intro f7_in (callV0 (callI C7 () q11_20 [] false C7_holds hq11_20 rfl rfl ?_)))
          refine (And.intro (fun h => nomatch h) (And.intro rfl (And.intro rfl (And.intro trivial (And.intro trivial ?_)))))
          refine Or.inl ?_
          obtain ⟨r4, hr4, hF⟩ := bindE hF
          refine Or.inl (And.intro f9_in (callV0 (callI C9 z3.2 r4 [] false C9_holds hr4 rfl rfl ?_)))
          refine (And.intro rfl (And.intro (fun h => nomatch h) (And.intro rfl (And.intro rfl (And.intro trivial (And.intro trivial ?_))))))
          obtain ⟨r5, hr5, hF⟩ := bindE hF
          refine Or.inl (And.intro f8_in (callV0 (callI C8 ([], (r4.2, r4.1)) r5 [(0, some 1), (1, some 2)] false C8_holds hr5 rfl rfl ?_)))
          refine (And.intro rfl (And.intro rfl (And.intro (fun h => nomatch h) (And.intro rfl (And.intro rfl (And.intro (And.intro rfl trivial) (And.intro (And.intro rfl (And.intro rfl trivial)) ?_)))))))
          refine Or.inl ?_
          obtain ⟨r6, hr6, hF⟩ := bindE hF
          refine Or.inl (And.intro f13_in (callV0 (callI C13 (r5.2.2, r5.1, class_) r6 [(0, some 1), (1, some 6)] false C13_holds hr6 rfl rfl ?_)))
          refine (And.intro rfl (And.intro rfl (And.intro (fun h => nomatch h) (And.intro rfl (And.intro rfl (And.intro (And.intro rfl trivial) (And.intro (And.intro rfl (And.intro rfl trivial)) ?_)))))))
          refine Or.inl ?_
          obtain ⟨r7, hr7, hF⟩ := bindE hF
          refine Or.inl (And.intro f12_in (callV0 (callI C12 (r6.2.2, r6.1) r7 [(0, some 1), (1, some 9)] false C12_holds hr7 rfl rfl ?_)))
          refine (And.intro rfl (And.intro (fun h => nomatch h) (And.intro rfl (And.intro rfl (And.intro (And.intro rfl trivial) (And.intro (And.intro rfl (And.intro rfl trivial)) ?_))))))
          refine Or.inl ?_
          refine Or.inl ?_
          refine condI hF (fun hF => ?_) (fun hF => ?_)
          · refine condT ?_
            refine condI hF (fun hF => ?_) (fun hF => ?_)
            · refine gdYT ?_
              refine gdYT ?_
              refine guardI hF (fun hF => ?_)
              refine gdYT ?_
              refine gdYT ?_
              refine gdYT ?_
              refine gdYT ?_
              refine condT ?_
              refine condI hF (fun hF => ?_) (fun hF => ?_)
              · refine gdYT ?_
                refine gdYT ?_
                refine guardI hF (fun hF => ?_)
                refine gdYT ?_
                refine gdYT ?_
                refine condT ?_
                have hy := someE hF
                subst hy
                refine And.intro rfl (Exists.intro [] (Exists.intro [] (Exists.intro [] (Exists.intro [] (Exists.intro [] (And.intro rfl (And.intro rfl (And.intro trivial trivial))))))))
              · refine gdNT ?_
                refine gdNT ?_
                refine gdNT ?_
                refine gdNT ?_
                refine condF ?_
                have hy := someE hF
                subst hy
                refine And.intro rfl (Exists.intro [] (Exists.intro [] (Exists.intro [] (Exists.intro [] (Exists.intro [] (And.intro rfl (And.intro rfl (And.intro trivial trivial))))))))
            · refine gdNT ?_
              refine gdNT ?_
              refine gdNT ?_
              refine gdNT ?_
              refine gdNT ?_
              refine gdNT ?_
              refine condF ?_
              refine gdNT ?_
              refine gdNT ?_
              refine gdNT ?_
              refine gdNT ?_
              refine gdNT ?_
              refine condF ?_
              have hy := someE hF
              subst hy
              refine And.intro rfl (Exists.intro [] (Exists.intro [] (Exists.intro [] (Exists.intro [] (Exists.intro [] (And.intro rfl (And.intro rfl (And.intro trivial trivial))))))))
          · refine condF ?_
            refine gdNT ?_
            refine gdNT ?_
            refine gdNT ?_
            refine gdNT ?_
            refine gdNT ?_
            refine gdNT ?_
            refine gdNT ?_
            refine condF ?_
            refine gdNT ?_
            refine gdNT ?_
            refine gdNT ?_
            refine gdNT ?_
            refine gdNT ?_
            refine condF ?_
            have hy := someE hF
            subst hy
            refine And.intro rfl (Exists.intro [] (Exists.intro [] (Exists.intro [] (Exists.intro [] (Exists.intro [] (And.intro rfl (And.intro rfl (And.intro trivial trivial))))))))
      · dsimp only [sumF] at hF
        refine And.intro ?_ trivial
        have hy := someE hF
        subst hy
        refine And.intro rfl (Exists.intro [] (Exists.intro [] (Exists.intro [] (Exists.intro [] (Exists.intro [] (And.intro rfl (And.intro rfl (And.intro trivial trivial))))))))
theorem C4_holds : C4.Holds Try.prog 4 := holds_of_vc tab_ok mixed (fn := Try.f4) (by kernel_rfl) rfl C4 (fun x y hF => C4_vc x.1 x.2 y hF)
theorem f4_in : ∃ fn, Try.prog.funcs[4]? = some fn ∧ fn.body.isSome = true ∧ (fn.name == "runtime.NumGoroutine") = false := ⟨Try.f4, by kernel_rfl, by kernel_rfl, by kernel_rfl⟩
end Go.Proofs
