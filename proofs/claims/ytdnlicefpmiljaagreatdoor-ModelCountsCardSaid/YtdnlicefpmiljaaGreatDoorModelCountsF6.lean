import Derived.Test.YtdnlicefpmiljaaGreatDoorModelCountsF5
set_option linter.unusedVariables false
set_option maxRecDepth 100000
set_option maxHeartbeats 8000000
namespace Go.Proofs
open Go.AM
-- carousel/tens.Reshape
def f151_j3 (a : (List Int) × (List Int)) (d : List Int) : Option Bool :=
  bindF (f91 (a.1, a.2)) fun r8 =>
  bif (!r8) then
    some true
  else
    bindF (f65 d) fun r9 =>
    some (!r9)
def f151_j2 (a : (List Int) × (List Int)) (d : List Int) : Option (Sum Unit Int) :=
  bindF (f151_j3 a d) fun z7 =>
  bif z7 then
    some (Sum.inr (1 : Int))
  else
    bindF (f117 d) fun q3_1 =>
    bif (q3_1 != (List.length a.2 : Int)) then
      some (Sum.inr (4 : Int))
    else
      some (Sum.inl ())
def f151 (a : (List Int) × (List Int)) (d : List Int) : Option (Int × (List Int) × (List Int)) :=
  bindF (f151_j2 a d) fun z5 =>
  sumF z5 (fun z5a =>
    bindF (f61 d) fun q5_1 =>
    bindF (f75 a.2) fun q5_4 =>
    some ((0 : Int), q5_1, q5_4)) (fun z5b =>
    some (z5b, [], []))
def C151 : Con where
  X := ((List Int) × (List Int)) × (List Int)
  Y := Int × (List Int) × (List Int)
  e := 0
  args x := [.dat (.p (.sl (.int .i64)) (.sl (.int .i64))) x.1, .dat (.sl (.int .i64)) x.2]
  hin x := []
  F x := f151 x.1 x.2
  ret y := [.raw true [(.osl 0), (.osl 1)], .dat (.int .i64) y.1]
  hout y := [(0, .arr 3 (.int .i64) y.2.1), (1, .arr 57 (.int .i64) y.2.2)]
  nout := 2
theorem C151_vc (a : (List Int) × (List Int)) (d : List Int) (y : Int × (List Int) × (List Int)) (hF : f151 a d = some y) : vc Tryz.prog tab Tryz.f151.ntmps 0 (match Tryz.f151.body with | some c => c | none => .skip) (retK tab C151 Tryz.f151.results.toList y) (C151.shIn (a, d)).st := by
  unfold f151 at hF
  refine Or.inl ?_
  obtain ⟨z5, hz5, hF⟩ := bindE hF
  refine Or.inr ⟨Sum.elim (fun z5a => [(0, ⟨[(1, .dat (.sl (.int .i64)) d), (2, .raw false [(.ptr 0 0)]), (4, .raw false [(.ptr 1 0)])], [(0, .cells [(.d (.sl (.int .i64)) a.1), (.d (.sl (.int .i64)) a.2)]), (1, .cells [(.c (.slice none 0 0)), (.c (.slice none 0 0))])], 2⟩)]) (fun z5b => [(1, ⟨[(4, .raw false [(.ptr 0 0)]), (5, .dat (.int .i64) z5b)], [(0, .cells [(.c (.slice none 0 0)), (.c (.slice none 0 0))])], 1⟩)]) z5, ?_, ?_⟩
  · have hF := hz5
    clear hz5
    unfold f151_j2 at hF
    obtain ⟨z7, hz7, hF⟩ := bindE hF
    refine Or.inr ⟨[(0, ⟨[(1, .dat (.sl (.int .i64)) d), (2, .raw false [(.ptr 0 0)]), (4, .raw false [(.ptr 1 0)]), (6, .dat .bool z7)], [(0, .cells [(.d (.sl (.int .i64)) a.1), (.d (.sl (.int .i64)) a.2)]), (1, .cells [(.c (.slice none 0 0)), (.c (.slice none 0 0))])], 2⟩)], ?_, ?_⟩
    · have hF := hz7
      clear hz7
      unfold f151_j3 at hF
      obtain ⟨r8, hr8, hF⟩ := bindE hF
      refine Or.inl (And.intro f91_in (callV0 (callI C91 (a.1, a.2) r8 [] false C91_holds hr8 rfl rfl ?_)))
      refine (And.intro rfl (And.intro rfl (And.intro (fun h => nomatch h) (And.intro rfl (And.intro rfl (And.intro trivial (And.intro trivial ?_)))))))
      refine condN hF (fun hF => ?_) (fun hF => ?_)
      · refine gdYF ?_
        obtain ⟨r9, hr9, hF⟩ := bindE hF
        refine Or.inl (And.intro f65_in (callV0 (callI C65 d r9 [] false C65_holds hr9 rfl rfl ?_)))
        refine (And.intro rfl (And.intro (fun h => nomatch h) (And.intro rfl (And.intro rfl (And.intro trivial (And.intro trivial ?_))))))
        refine gdYF ?_
        refine condF ?_
        have hz := someE hF
        subst hz
        refine Exists.intro [] (Exists.intro [] (Exists.intro [] (Exists.intro [] (Exists.intro [(0, some 0), (1, some 1)] (And.intro rfl (And.intro rfl (And.intro rfl (And.intro (And.intro rfl (And.intro rfl trivial)) (And.intro rfl (And.intro rfl trivial))))))))))
      · refine gdNF ?_
        refine gdNF ?_
        refine condT ?_
        have hz := someE hF
        subst hz
        refine Exists.intro [] (Exists.intro [] (Exists.intro [] (Exists.intro [] (Exists.intro [(0, some 0), (1, some 1)] (And.intro rfl (And.intro rfl (And.intro rfl (And.intro (And.intro rfl (And.intro rfl trivial)) (And.intro rfl (And.intro rfl trivial))))))))))
    · refine And.intro ?_ trivial
      refine condI hF (fun hF => ?_) (fun hF => ?_)
      · refine Or.inl ?_
        refine Or.inl ?_
        have hz := someE hF
        subst hz
        refine Exists.intro [] (Exists.intro [] (Exists.intro [] (Exists.intro [] (Exists.intro [(0, some 1)] (And.intro rfl (And.intro rfl (And.intro (And.intro rfl trivial) (And.intro rfl trivial))))))))
      · refine Or.inl ?_
        refine Exists.intro (.take 0 (.take 2 (.take 3 (.take 4 (.alt 1 (.take 5 (.take 6 .done)) .done))))) (Exists.intro [] (Exists.intro [] (And.intro rfl ?_)))
        refine And.intro trivial ?_
        obtain ⟨q3_1, hq3_1, hF⟩ := bindE hF
        refine Or.inl (And.intro f117_in (callV0 (callI C117 d q3_1 [] false C117_holds hq3_1 rfl rfl ?_)))
        refine (And.intro rfl (And.intro (fun h => nomatch h) (And.intro rfl (And.intro rfl (And.intro trivial (And.intro trivial ?_))))))
        refine condI hF (fun hF => ?_) (fun hF => ?_)
        · refine Or.inl ?_
          refine Or.inl ?_
          have hz := someE hF
          subst hz
          refine Exists.intro [] (Exists.intro [] (Exists.intro [] (Exists.intro [] (Exists.intro [(0, some 1)] (And.intro rfl (And.intro rfl (And.intro (And.intro rfl trivial) (And.intro rfl trivial))))))))
        · have hz := someE hF
          subst hz
          refine Exists.intro [] (Exists.intro [] (Exists.intro [] (Exists.intro [] (Exists.intro [(0, some 0), (1, some 1)] (And.intro rfl (And.intro rfl (And.intro (And.intro rfl (And.intro rfl trivial)) (And.intro rfl (And.intro rfl trivial)))))))))
  · rcases z5 with z5a | z5b
    · dsimp only [sumF] at hF
      refine And.intro ?_ trivial
      refine Or.inl ?_
      refine Exists.intro (.take 0 (.take 2 (.take 3 (.alt 1 (.alt 4 (.take 5 (.alt 6 (.take 7 .done) .done)) .done) .done)))) (Exists.intro [] (Exists.intro [] (And.intro rfl ?_)))
      refine And.intro trivial ?_
      obtain ⟨q5_1, hq5_1, hF⟩ := bindE hF
      refine Or.inl (And.intro f61_in (callV0 (callI C61 d q5_1 [] false C61_holds hq5_1 rfl rfl ?_)))
      refine (And.intro rfl (And.intro (fun h => nomatch h) (And.intro rfl (And.intro rfl (And.intro trivial (And.intro trivial ?_))))))
      refine And.intro trivial ?_
      obtain ⟨q5_4, hq5_4, hF⟩ := bindE hF
      refine Or.inl (And.intro f75_in (callV0 (callI C75 a.2 q5_4 [] false C75_holds hq5_4 rfl rfl ?_)))
      refine (And.intro rfl (And.intro (fun h => nomatch h) (And.intro rfl (And.intro rfl (And.intro trivial (And.intro trivial ?_))))))
      refine And.intro trivial ?_
      refine Or.inl ?_
      have hy := someE hF
      subst hy
      refine And.intro rfl (Exists.intro [] (Exists.intro [] (Exists.intro [] (Exists.intro [] (Exists.intro [(0, some 2), (1, some 3)] (And.intro rfl (And.intro rfl (And.intro (And.intro rfl trivial) (And.intro rfl (And.intro rfl trivial))))))))))
    · dsimp only [sumF] at hF
      refine And.intro ?_ trivial
      have hy := someE hF
      subst hy
      refine And.intro rfl (Exists.intro [] (Exists.intro [] (Exists.intro [] (Exists.intro [] (Exists.intro [(0, none), (1, none)] (And.intro rfl (And.intro rfl (And.intro (And.intro rfl trivial) (And.intro rfl (And.intro rfl trivial))))))))))
theorem C151_holds : C151.Holds Tryz.prog 151 := holds_of_vc tab_ok mixed (fn := Tryz.f151) (by kernel_rfl) rfl C151 (fun x y hF => C151_vc x.1 x.2 y hF)
theorem f151_in : ∃ fn, Tryz.prog.funcs[151]? = some fn ∧ fn.body.isSome = true ∧ (fn.name == "runtime.NumGoroutine") = false := ⟨Tryz.f151, by kernel_rfl, by kernel_rfl, by kernel_rfl⟩
end Go.Proofs
namespace Go.Proofs
open Go.AM
-- carousel/tape.one
def f121 (op : Int) (a : (List Int) × (List Int)) (k : Int) : Option (Int × (List Int) × (List Int)) :=
  bif (op == (5 : Int)) then
    bindF (f143 (a.1, a.2) k) fun r1 =>
    some (r1.1, r1.2.1, r1.2.2)
  else
    bif (op == (7 : Int)) then
      bindF (f144 (a.1, a.2)) fun r2 =>
      some (r2.1, r2.2.1, r2.2.2)
    else
      bif (op == (8 : Int)) then
        bindF (f145 (a.1, a.2) k) fun r3 =>
        some (r3.1, r3.2.1, r3.2.2)
      else
        bif (op == (9 : Int)) then
          bindF (f147 (a.1, a.2)) fun r4 =>
          bindF (f146 r4.1 r4.2) fun r5 =>
          some (r5.1, r5.2.1, r5.2.2)
        else
          bif (op == (10 : Int)) then
            bindF (f148 (a.1, a.2)) fun r6 =>
            bindF (f146 r6.1 r6.2) fun r7 =>
            some (r7.1, r7.2.1, r7.2.2)
          else
            bif (op == (11 : Int)) then
              bindF (f149 k (a.1, a.2)) fun r8 =>
              some (r8.1, r8.2.1, r8.2.2)
            else
              bif (op == (13 : Int)) then
                bindF (f150 (a.1, a.2) k) fun r9 =>
                some (r9.1, r9.2.1, r9.2.2.1)
              else
                bindF (f151 (a.1, a.2) ([(List.length a.2 : Int)])) fun r10 =>
                some (r10.1, r10.2.1, r10.2.2)
def C121 : Con where
  X := Int × ((List Int) × (List Int)) × Int
  Y := Int × (List Int) × (List Int)
  e := 0
  args x := [.dat (.int .i64) x.1, .dat (.p (.sl (.int .i64)) (.sl (.int .i64))) x.2.1, .dat (.int .i64) x.2.2]
  hin x := []
  F x := f121 x.1 x.2.1 x.2.2
  ret y := [.raw true [(.osl 0), (.osl 1)], .dat (.int .i64) y.1]
  hout y := [(0, .arr 3 (.int .i64) y.2.1), (1, .arr 57 (.int .i64) y.2.2)]
  nout := 2
theorem C121_vc (op : Int) (a : (List Int) × (List Int)) (k : Int) (y : Int × (List Int) × (List Int)) (hF : f121 op a k = some y) : vc Tryz.prog tab Tryz.f121.ntmps 0 (match Tryz.f121.body with | some c => c | none => .skip) (retK tab C121 Tryz.f121.results.toList y) (C121.shIn (op, a, k)).st := by
  unfold f121 at hF
  refine Or.inl ?_
  refine Or.inl ?_
  refine Or.inl ?_
  refine Or.inl ?_
  refine condI hF (fun hF => ?_) (fun hF => ?_)
  · refine Or.inl ?_
    obtain ⟨r1, hr1, hF⟩ := bindE hF
    refine Or.inl (And.intro f143_in (callV0 (callI C143 ((a.1, a.2), k) r1 [] false C143_holds hr1 rfl rfl ?_)))
    refine (And.intro rfl (And.intro rfl (And.intro rfl (And.intro (fun h => nomatch h) (And.intro rfl (And.intro rfl (And.intro trivial (And.intro trivial ?_))))))))
    refine Or.inl ?_
    have hy := someE hF
    subst hy
    refine And.intro rfl (Exists.intro [] (Exists.intro [] (Exists.intro [] (Exists.intro [] (Exists.intro [(0, some 2), (1, some 3)] (And.intro rfl (And.intro rfl (And.intro (And.intro rfl trivial) (And.intro rfl (And.intro rfl trivial))))))))))
  · refine Or.inl ?_
    refine condI hF (fun hF => ?_) (fun hF => ?_)
    · refine Or.inl ?_
      obtain ⟨r2, hr2, hF⟩ := bindE hF
      refine Or.inl (And.intro f144_in (callV0 (callI C144 (a.1, a.2) r2 [] false C144_holds hr2 rfl rfl ?_)))
      refine (And.intro rfl (And.intro rfl (And.intro (fun h => nomatch h) (And.intro rfl (And.intro rfl (And.intro trivial (And.intro trivial ?_)))))))
      refine Or.inl ?_
      have hy := someE hF
      subst hy
      refine And.intro rfl (Exists.intro [] (Exists.intro [] (Exists.intro [] (Exists.intro [] (Exists.intro [(0, some 2), (1, some 3)] (And.intro rfl (And.intro rfl (And.intro (And.intro rfl trivial) (And.intro rfl (And.intro rfl trivial))))))))))
    · refine Or.inl ?_
      refine condI hF (fun hF => ?_) (fun hF => ?_)
      · refine Or.inl ?_
        obtain ⟨r3, hr3, hF⟩ := bindE hF
        refine Or.inl (And.intro f145_in (callV0 (callI C145 ((a.1, a.2), k) r3 [] false C145_holds hr3 rfl rfl ?_)))
        refine (And.intro rfl (And.intro rfl (And.intro rfl (And.intro (fun h => nomatch h) (And.intro rfl (And.intro rfl (And.intro trivial (And.intro trivial ?_))))))))
        refine Or.inl ?_
        have hy := someE hF
        subst hy
        refine And.intro rfl (Exists.intro [] (Exists.intro [] (Exists.intro [] (Exists.intro [] (Exists.intro [(0, some 2), (1, some 3)] (And.intro rfl (And.intro rfl (And.intro (And.intro rfl trivial) (And.intro rfl (And.intro rfl trivial))))))))))
      · refine Or.inl ?_
        refine condI hF (fun hF => ?_) (fun hF => ?_)
        · refine Or.inl ?_
          obtain ⟨r4, hr4, hF⟩ := bindE hF
          refine Or.inl (And.intro f147_in (callV0 (callI C147 (a.1, a.2) r4 [] false C147_holds hr4 rfl rfl ?_)))
          refine (And.intro rfl (And.intro rfl (And.intro (fun h => nomatch h) (And.intro rfl (And.intro rfl (And.intro trivial (And.intro trivial ?_)))))))
          obtain ⟨r5, hr5, hF⟩ := bindE hF
          refine Or.inl (And.intro f146_in (callV0 (callI C146 (r4.1, r4.2) r5 [] false C146_holds hr5 rfl rfl ?_)))
          refine (And.intro rfl (And.intro rfl (And.intro (fun h => nomatch h) (And.intro rfl (And.intro rfl (And.intro trivial (And.intro trivial ?_)))))))
          refine Or.inl ?_
          have hy := someE hF
          subst hy
          refine And.intro rfl (Exists.intro [] (Exists.intro [] (Exists.intro [] (Exists.intro [] (Exists.intro [(0, some 2), (1, some 3)] (And.intro rfl (And.intro rfl (And.intro (And.intro rfl trivial) (And.intro rfl (And.intro rfl trivial))))))))))
        · refine Or.inl ?_
          refine condI hF (fun hF => ?_) (fun hF => ?_)
          · refine Or.inl ?_
            obtain ⟨r6, hr6, hF⟩ := bindE hF
            refine Or.inl (And.intro f148_in (callV0 (callI C148 (a.1, a.2) r6 [] false C148_holds hr6 rfl rfl ?_)))
            refine (And.intro rfl (And.intro rfl (And.intro (fun h => nomatch h) (And.intro rfl (And.intro rfl (And.intro trivial (And.intro trivial ?_)))))))
            obtain ⟨r7, hr7, hF⟩ := bindE hF
            refine Or.inl (And.intro f146_in (callV0 (callI C146 (r6.1, r6.2) r7 [] false C146_holds hr7 rfl rfl ?_)))
            refine (And.intro rfl (And.intro rfl (And.intro (fun h => nomatch h) (And.intro rfl (And.intro rfl (And.intro trivial (And.intro trivial ?_)))))))
            refine Or.inl ?_
            have hy := someE hF
            subst hy
            refine And.intro rfl (Exists.intro [] (Exists.intro [] (Exists.intro [] (Exists.intro [] (Exists.intro [(0, some 2), (1, some 3)] (And.intro rfl (And.intro rfl (And.intro (And.intro rfl trivial) (And.intro rfl (And.intro rfl trivial))))))))))
          · refine Or.inl ?_
            refine condI hF (fun hF => ?_) (fun hF => ?_)
            · refine Or.inl ?_
              obtain ⟨r8, hr8, hF⟩ := bindE hF
              refine Or.inl (And.intro f149_in (callV0 (callI C149 (k, (a.1, a.2)) r8 [] false C149_holds hr8 rfl rfl ?_)))
              refine (And.intro rfl (And.intro rfl (And.intro rfl (And.intro (fun h => nomatch h) (And.intro rfl (And.intro rfl (And.intro trivial (And.intro trivial ?_))))))))
              refine Or.inl ?_
              have hy := someE hF
              subst hy
              refine And.intro rfl (Exists.intro [] (Exists.intro [] (Exists.intro [] (Exists.intro [] (Exists.intro [(0, some 2), (1, some 3)] (And.intro rfl (And.intro rfl (And.intro (And.intro rfl trivial) (And.intro rfl (And.intro rfl trivial))))))))))
            · refine Or.inl ?_
              refine condI hF (fun hF => ?_) (fun hF => ?_)
              · refine Or.inl ?_
                obtain ⟨r9, hr9, hF⟩ := bindE hF
                refine Or.inl (And.intro f150_in (callV0 (callI C150 ((a.1, a.2), k) r9 [] false C150_holds hr9 rfl rfl ?_)))
                refine (And.intro rfl (And.intro rfl (And.intro rfl (And.intro (fun h => nomatch h) (And.intro rfl (And.intro rfl (And.intro trivial (And.intro trivial ?_))))))))
                refine Or.inl ?_
                refine Or.inl ?_
                refine Or.inl ?_
                have hy := someE hF
                subst hy
                refine And.intro rfl (Exists.intro [] (Exists.intro [] (Exists.intro [] (Exists.intro [] (Exists.intro [(0, some 2), (1, some 3)] (And.intro rfl (And.intro rfl (And.intro (And.intro rfl trivial) (And.intro rfl (And.intro rfl trivial))))))))))
              · refine Or.inl ?_
                refine Or.inl ?_
                obtain ⟨r10, hr10, hF⟩ := bindE hF
                refine Or.inl (And.intro f151_in (callV0 (callI C151 ((a.1, a.2), [(List.length a.2 : Int)]) r10 [] true C151_holds hr10 rfl rfl ?_)))
                refine (And.intro rfl (And.intro rfl (And.intro rfl (And.intro (fun _ => rfl) (And.intro rfl (And.intro rfl (And.intro trivial (And.intro trivial ?_))))))))
                refine Or.inl ?_
                have hy := someE hF
                subst hy
                refine And.intro rfl (Exists.intro [] (Exists.intro [] (Exists.intro [] (Exists.intro [] (Exists.intro [(0, some 3), (1, some 4)] (And.intro rfl (And.intro rfl (And.intro (And.intro rfl trivial) (And.intro rfl (And.intro rfl trivial))))))))))
theorem C121_holds : C121.Holds Tryz.prog 121 := holds_of_vc tab_ok mixed (fn := Tryz.f121) (by kernel_rfl) rfl C121 (fun x y hF => C121_vc x.1 x.2.1 x.2.2 y hF)
theorem f121_in : ∃ fn, Tryz.prog.funcs[121]? = some fn ∧ fn.body.isSome = true ∧ (fn.name == "runtime.NumGoroutine") = false := ⟨Tryz.f121, by kernel_rfl, by kernel_rfl, by kernel_rfl⟩
end Go.Proofs
namespace Go.Proofs
open Go.AM
-- (*carousel/tape.Tape).Do
def f93_j1 (t_l : List (Int × Int × Int × Int × (List Int) × (List Int))) (op : Int) (a : Int) (b : Int) : Option (Sum (List (Int × Int × Int × Int × (List Int) × (List Int))) (Int × (List (Int × Int × Int × Int × (List Int) × (List Int))))) :=
  bif (decide ((List.length t_l : Int) ≥ (512 : Int))) then
    some (Sum.inr ((2 : Int), t_l))
  else
    bif (decide (op < (2 : Int))) then
      some (Sum.inr ((1 : Int), t_l))
    else
      bif (decide (op > (14 : Int))) then
        some (Sum.inr ((1 : Int), t_l))
      else
        bindF (f48 t_l a) fun r5 =>
        bif (!r5.1) then
          some (Sum.inr ((1 : Int), r5.2))
        else
          bindF (f118 op) fun r6 =>
          bif r6 then
            bindF (f48 r5.2 b) fun r7 =>
            bif (!r7.1) then
              some (Sum.inr ((1 : Int), r7.2))
            else
              some (Sum.inl r7.2)
          else
            some (Sum.inl r5.2)
def f93_j2 (op : Int) (k : Int) : Option Int :=
  bindF (f119 op) fun r10 =>
  bif r10 then
    some k
  else
    some (0 : Int)
def f93_j3 (op : Int) (a : Int) (b : Int) (k : Int) (z4a : List (Int × Int × Int × Int × (List Int) × (List Int))) : Option (Int × Int × (List Int) × (List Int)) :=
  bindF (f118 op) fun r13 =>
  bif r13 then
    guardF (0 ≤ a ∧ a < (List.length z4a : Int)) <|
    guardF (0 ≤ b ∧ b < (List.length z4a : Int)) <|
    bindF (f120 op ((((((rd (Ty.z (.p (.int .i64) (.p (.int .i64) (.p (.int .i64) (.p (.int .i64) (.p (.sl (.int .i64)) (.sl (.int .i64)))))))) z4a a).2).2).2).2).1, (((((rd (Ty.z (.p (.int .i64) (.p (.int .i64) (.p (.int .i64) (.p (.int .i64) (.p (.sl (.int .i64)) (.sl (.int .i64)))))))) z4a a).2).2).2).2).2) ((((((rd (Ty.z (.p (.int .i64) (.p (.int .i64) (.p (.int .i64) (.p (.int .i64) (.p (.sl (.int .i64)) (.sl (.int .i64)))))))) z4a b).2).2).2).2).1, (((((rd (Ty.z (.p (.int .i64) (.p (.int .i64) (.p (.int .i64) (.p (.int .i64) (.p (.sl (.int .i64)) (.sl (.int .i64)))))))) z4a b).2).2).2).2).2) k) fun q11_18 =>
    some (q11_18.1, b, q11_18.2.1, q11_18.2.2)
  else
    guardF (0 ≤ a ∧ a < (List.length z4a : Int)) <|
    bindF (f121 op ((((((rd (Ty.z (.p (.int .i64) (.p (.int .i64) (.p (.int .i64) (.p (.int .i64) (.p (.sl (.int .i64)) (.sl (.int .i64)))))))) z4a a).2).2).2).2).1, (((((rd (Ty.z (.p (.int .i64) (.p (.int .i64) (.p (.int .i64) (.p (.int .i64) (.p (.sl (.int .i64)) (.sl (.int .i64)))))))) z4a a).2).2).2).2).2) k) fun q11_24 =>
    some (q11_24.1, (-1 : Int), q11_24.2.1, q11_24.2.2)
def f93 (t_l : List (Int × Int × Int × Int × (List Int) × (List Int))) (op : Int) (a : Int) (b : Int) (k : Int) : Option (Int × Int × (List (Int × Int × Int × Int × (List Int) × (List Int)))) :=
  bindF (f93_j1 t_l op a b) fun z4 =>
  sumF z4 (fun z4a =>
    bindF (f93_j2 op k) fun z9 =>
    bindF (f93_j3 op a b k z4a) fun z12 =>
    bif (z12.1 != (0 : Int)) then
      some ((0 : Int), z12.1, z4a)
    else
      bindF (f92 z4a (op, a, z12.2.1, z9, z12.2.2.1, z12.2.2.2)) fun r14 =>
      some (r14.1, (0 : Int), r14.2)) (fun z4b =>
    some ((0 : Int), z4b.1, z4b.2))
def C93 : Con where
  X := (List (Int × Int × Int × Int × (List Int) × (List Int))) × Int × Int × Int × Int
  Y := Int × Int × (List (Int × Int × Int × Int × (List Int) × (List Int)))
  e := 2
  args x := [.raw false [(.ptr 0 0)], .dat (.int .i64) x.2.1, .dat (.int .i64) x.2.2.1, .dat (.int .i64) x.2.2.2.1, .dat (.int .i64) x.2.2.2.2]
  hin x := [(0, .cells [(.osl 1)]), (1, .arr 61 (.p (.int .i64) (.p (.int .i64) (.p (.int .i64) (.p (.int .i64) (.p (.sl (.int .i64)) (.sl (.int .i64))))))) x.1)]
  F x := f93 x.1 x.2.1 x.2.2.1 x.2.2.2.1 x.2.2.2.2
  ret y := [.dat (.int .i64) y.1, .dat (.int .i64) y.2.1]
  hout y := [(0, .cells [(.osl 2)]), (2, .arr 61 (.p (.int .i64) (.p (.int .i64) (.p (.int .i64) (.p (.int .i64) (.p (.sl (.int .i64)) (.sl (.int .i64))))))) y.2.2)]
  nout := 3
theorem C93_vc (t_l : List (Int × Int × Int × Int × (List Int) × (List Int))) (op : Int) (a : Int) (b : Int) (k : Int) (y : Int × Int × (List (Int × Int × Int × Int × (List Int) × (List Int)))) (hF : f93 t_l op a b k = some y) : vc Tryz.prog tab Tryz.f93.ntmps 2 (match Tryz.f93.body with | some c => c | none => .skip) (retK tab C93 Tryz.f93.results.toList y) (C93.shIn (t_l, op, a, b, k)).st := by
  unfold f93 at hF
  refine Or.inl ?_
  obtain ⟨z4, hz4, hF⟩ := bindE hF
  refine Or.inr ⟨Sum.elim (fun z4a => [(0, ⟨[(0, .raw false [(.ptr 0 0)]), (1, .dat (.int .i64) op), (2, .dat (.int .i64) a), (3, .dat (.int .i64) b), (4, .dat (.int .i64) k)], [(0, .cells [(.osl 1)]), (1, .arr 61 (.p (.int .i64) (.p (.int .i64) (.p (.int .i64) (.p (.int .i64) (.p (.sl (.int .i64)) (.sl (.int .i64))))))) z4a)], 2⟩)]) (fun z4b => [(1, ⟨[(10, .dat (.int .i64) (0 : Int)), (11, .dat (.int .i64) z4b.1)], [(0, .cells [(.osl 1)]), (1, .arr 61 (.p (.int .i64) (.p (.int .i64) (.p (.int .i64) (.p (.int .i64) (.p (.sl (.int .i64)) (.sl (.int .i64))))))) z4b.2)], 2⟩)]) z4, ?_, ?_⟩
  · have hF := hz4
    clear hz4
    unfold f93_j1 at hF
    refine Or.inl ?_
    refine condI hF (fun hF => ?_) (fun hF => ?_)
    · refine Or.inl ?_
      have hz := someE hF
      subst hz
      refine Exists.intro [] (Exists.intro [] (Exists.intro [] (Exists.intro [] (Exists.intro [(0, some 0), (1, some 1)] (And.intro rfl (And.intro rfl (And.intro rfl (And.intro trivial (And.intro rfl (And.intro rfl trivial))))))))))
    · refine Or.inl ?_
      refine condN hF (fun hF => ?_) (fun hF => ?_)
      · refine gdYF ?_
        refine condF ?_
        refine condN hF (fun hF => ?_) (fun hF => ?_)
        · refine gdYF ?_
          refine gdYF ?_
          obtain ⟨r5, hr5, hF⟩ := bindE hF
          refine Or.inl (And.intro f48_in (callV0 (callI C48 (t_l, a) r5 [(0, some 0), (1, some 1)] false C48_holds hr5 rfl rfl ?_)))
          refine (And.intro rfl (And.intro (fun h => nomatch h) (And.intro rfl (And.intro rfl (And.intro (And.intro rfl trivial) (And.intro (And.intro rfl (And.intro rfl trivial)) ?_))))))
          refine gdYF ?_
          refine condF ?_
          refine condN hF (fun hF => ?_) (fun hF => ?_)
          · refine gdYF ?_
            obtain ⟨r6, hr6, hF⟩ := bindE hF
            refine Or.inl (And.intro f118_in (callV0 (callI C118 op r6 [] false C118_holds hr6 rfl rfl ?_)))
            refine (And.intro rfl (And.intro (fun h => nomatch h) (And.intro rfl (And.intro rfl (And.intro trivial (And.intro trivial ?_))))))
            refine gdYF ?_
            refine condI hF (fun hF => ?_) (fun hF => ?_)
            · refine gdYT ?_
              refine gdYT ?_
              obtain ⟨r7, hr7, hF⟩ := bindE hF
              refine Or.inl (And.intro f48_in (callV0 (callI C48 (r5.2, b) r7 [(0, some 0), (1, some 1)] false C48_holds hr7 rfl rfl ?_)))
              refine (And.intro rfl (And.intro (fun h => nomatch h) (And.intro rfl (And.intro rfl (And.intro (And.intro rfl trivial) (And.intro (And.intro rfl (And.intro rfl trivial)) ?_))))))
              refine gdYT ?_
              refine gdYF ?_
              refine condT ?_
              refine condF ?_
              refine condI hF (fun hF => ?_) (fun hF => ?_)
              · refine Or.inl ?_
                have hz := someE hF
                subst hz
                refine Exists.intro [] (Exists.intro [] (Exists.intro [] (Exists.intro [] (Exists.intro [(0, some 0), (1, some 1)] (And.intro rfl (And.intro rfl (And.intro rfl (And.intro trivial (And.intro rfl (And.intro rfl trivial))))))))))
              · have hz := someE hF
                subst hz
                refine Exists.intro [] (Exists.intro [] (Exists.intro [] (Exists.intro [] (Exists.intro [(0, some 0), (1, some 1)] (And.intro rfl (And.intro rfl (And.intro rfl (And.intro rfl (And.intro rfl (And.intro (And.intro rfl trivial) (And.intro rfl (And.intro rfl trivial))))))))))))
            · refine gdNT ?_
              refine gdNT ?_
              refine gdNT ?_
              refine gdYF ?_
              refine condF ?_
              refine condF ?_
              refine condF ?_
              have hz := someE hF
              subst hz
              refine Exists.intro [] (Exists.intro [] (Exists.intro [] (Exists.intro [] (Exists.intro [(0, some 0), (1, some 1)] (And.intro rfl (And.intro rfl (And.intro rfl (And.intro rfl (And.intro rfl (And.intro (And.intro rfl trivial) (And.intro rfl (And.intro rfl trivial))))))))))))
          · refine gdNF ?_
            refine gdNF ?_
            refine gdNF ?_
            refine condT ?_
            refine condT ?_
            refine Or.inl ?_
            have hz := someE hF
            subst hz
            refine Exists.intro [] (Exists.intro [] (Exists.intro [] (Exists.intro [] (Exists.intro [(0, some 0), (1, some 1)] (And.intro rfl (And.intro rfl (And.intro rfl (And.intro trivial (And.intro rfl (And.intro rfl trivial))))))))))
        · refine gdNF ?_
          refine gdNF ?_
          refine gdNF ?_
          refine condT ?_
          refine gdNF ?_
          refine gdNF ?_
          refine gdNF ?_
          refine gdNF ?_
          refine condT ?_
          refine condT ?_
          refine Or.inl ?_
          have hz := someE hF
          subst hz
          refine Exists.intro [] (Exists.intro [] (Exists.intro [] (Exists.intro [] (Exists.intro [(0, some 0), (1, some 1)] (And.intro rfl (And.intro rfl (And.intro rfl (And.intro trivial (And.intro rfl (And.intro rfl trivial))))))))))
      · refine gdNF ?_
        refine condT ?_
        refine gdNF ?_
        refine gdNF ?_
        refine gdNF ?_
        refine gdNF ?_
        refine condT ?_
        refine gdNF ?_
        refine gdNF ?_
        refine gdNF ?_
        refine gdNF ?_
        refine condT ?_
        refine condT ?_
        refine Or.inl ?_
        have hz := someE hF
        subst hz
        refine Exists.intro [] (Exists.intro [] (Exists.intro [] (Exists.intro [] (Exists.intro [(0, some 0), (1, some 1)] (And.intro rfl (And.intro rfl (And.intro rfl (And.intro trivial (And.intro rfl (And.intro rfl trivial))))))))))
  · rcases z4 with z4a | z4b
    · dsimp only [sumF] at hF
      refine And.intro ?_ trivial
      refine Or.inl ?_
      refine Or.inl ?_
      obtain ⟨z9, hz9, hF⟩ := bindE hF
      refine Or.inr ⟨[(0, ⟨[(0, .raw false [(.ptr 0 0)]), (1, .dat (.int .i64) op), (2, .dat (.int .i64) a), (3, .dat (.int .i64) b), (4, .dat (.int .i64) k), (12, .raw false [(.ptr 2 0)])], [(0, .cells [(.osl 1)]), (1, .arr 61 (.p (.int .i64) (.p (.int .i64) (.p (.int .i64) (.p (.int .i64) (.p (.sl (.int .i64)) (.sl (.int .i64))))))) z4a), (2, .cells [(.d (.int .i64) op), (.d (.int .i64) a), (.d (.int .i64) (-1 : Int)), (.d (.int .i64) z9), (.c (.slice none 0 0)), (.c (.slice none 0 0))])], 3⟩)], ?_, ?_⟩
      · have hF := hz9
        clear hz9
        unfold f93_j2 at hF
        refine Or.inl ?_
        obtain ⟨r10, hr10, hF⟩ := bindE hF
        refine Or.inl (And.intro f119_in (callV0 (callI C119 op r10 [] false C119_holds hr10 rfl rfl ?_)))
        refine (And.intro rfl (And.intro (fun h => nomatch h) (And.intro rfl (And.intro rfl (And.intro trivial (And.intro trivial ?_))))))
        refine condI hF (fun hF => ?_) (fun hF => ?_)
        · refine Or.inl ?_
          have hz := someE hF
          subst hz
          refine Exists.intro [] (Exists.intro [] (Exists.intro [] (Exists.intro [] (Exists.intro [(0, some 0), (1, some 1), (2, some 2)] (And.intro rfl (And.intro rfl (And.intro rfl (And.intro rfl (And.intro rfl (And.intro (And.intro rfl (And.intro rfl trivial)) (And.intro rfl (And.intro rfl (And.intro rfl trivial)))))))))))))
        · have hz := someE hF
          subst hz
          refine Exists.intro [] (Exists.intro [] (Exists.intro [] (Exists.intro [] (Exists.intro [(0, some 0), (1, some 1), (2, some 2)] (And.intro rfl (And.intro rfl (And.intro rfl (And.intro rfl (And.intro rfl (And.intro (And.intro rfl (And.intro rfl trivial)) (And.intro rfl (And.intro rfl (And.intro rfl trivial)))))))))))))
      · refine And.intro ?_ trivial
        refine Or.inl ?_
        obtain ⟨z12, hz12, hF⟩ := bindE hF
        refine Or.inr ⟨[(0, ⟨[(0, .raw false [(.ptr 0 0)]), (12, .raw false [(.ptr 2 0)]), (13, .dat (.int .i64) z12.1)], [(0, .cells [(.osl 1)]), (1, .arr 61 (.p (.int .i64) (.p (.int .i64) (.p (.int .i64) (.p (.int .i64) (.p (.sl (.int .i64)) (.sl (.int .i64))))))) z4a), (2, .cells [(.d (.int .i64) op), (.d (.int .i64) a), (.d (.int .i64) z12.2.1), (.d (.int .i64) z9), (.osl 3), (.osl 4)]), (3, .arr 3 (.int .i64) z12.2.2.1), (4, .arr 57 (.int .i64) z12.2.2.2)], 5⟩)], ?_, ?_⟩
        · have hF := hz12
          clear hz12
          unfold f93_j3 at hF
          refine Or.inl ?_
          obtain ⟨r13, hr13, hF⟩ := bindE hF
          refine Or.inl (And.intro f118_in (callV0 (callI C118 op r13 [] false C118_holds hr13 rfl rfl ?_)))
          refine (And.intro rfl (And.intro (fun h => nomatch h) (And.intro rfl (And.intro rfl (And.intro trivial (And.intro trivial ?_))))))
          refine condI hF (fun hF => ?_) (fun hF => ?_)
          · refine Or.inl ?_
            refine Or.inl ?_
            refine Exists.intro (.take 0 (.take 1 (.take 2 (.take 3 (.take 4 (.take 5 (.take 6 (.take 7 (.take 8 (.take 9 (.take 10 (.take 11 (.take 12 (.take 13 (.take 14 (.take 15 (.take 16 (.take 17 (.alt 18 (.take 19 (.take 20 (.take 21 (.take 22 (.alt 23 (.take 24 .done) .done))))) .done))))))))))))))))))) (Exists.intro [] (Exists.intro [] (And.intro rfl ?_)))
            refine guardI hF (fun hF => ?_)
            refine guardI hF (fun hF => ?_)
            refine And.intro trivial ?_
            obtain ⟨q11_18, hq11_18, hF⟩ := bindE hF
            refine Or.inl (And.intro f120_in (callV0 (callI C120 (op, ((((((rd (Ty.z (.p (.int .i64) (.p (.int .i64) (.p (.int .i64) (.p (.int .i64) (.p (.sl (.int .i64)) (.sl (.int .i64)))))))) z4a a).2).2).2).2).1, (((((rd (Ty.z (.p (.int .i64) (.p (.int .i64) (.p (.int .i64) (.p (.int .i64) (.p (.sl (.int .i64)) (.sl (.int .i64)))))))) z4a a).2).2).2).2).2), ((((((rd (Ty.z (.p (.int .i64) (.p (.int .i64) (.p (.int .i64) (.p (.int .i64) (.p (.sl (.int .i64)) (.sl (.int .i64)))))))) z4a b).2).2).2).2).1, (((((rd (Ty.z (.p (.int .i64) (.p (.int .i64) (.p (.int .i64) (.p (.int .i64) (.p (.sl (.int .i64)) (.sl (.int .i64)))))))) z4a b).2).2).2).2).2), k) q11_18 [] false C120_holds hq11_18 rfl rfl ?_)))
            refine (And.intro rfl (And.intro rfl (And.intro rfl (And.intro rfl (And.intro rfl (And.intro rfl (And.intro (fun h => nomatch h) (And.intro rfl (And.intro rfl (And.intro trivial (And.intro trivial ?_)))))))))))
            refine And.intro trivial ?_
            refine Or.inl ?_
            have hz := someE hF
            subst hz
            refine Exists.intro [] (Exists.intro [] (Exists.intro [] (Exists.intro [] (Exists.intro [(0, some 0), (1, some 1), (2, some 2), (3, some 3), (4, some 4)] (And.intro rfl (And.intro rfl (And.intro (And.intro rfl (And.intro rfl trivial)) (And.intro rfl (And.intro rfl (And.intro rfl (And.intro rfl (And.intro rfl trivial))))))))))))
          · refine guardI hF (fun hF => ?_)
            obtain ⟨q11_24, hq11_24, hF⟩ := bindE hF
            refine Or.inl (And.intro f121_in (callV0 (callI C121 (op, ((((((rd (Ty.z (.p (.int .i64) (.p (.int .i64) (.p (.int .i64) (.p (.int .i64) (.p (.sl (.int .i64)) (.sl (.int .i64)))))))) z4a a).2).2).2).2).1, (((((rd (Ty.z (.p (.int .i64) (.p (.int .i64) (.p (.int .i64) (.p (.int .i64) (.p (.sl (.int .i64)) (.sl (.int .i64)))))))) z4a a).2).2).2).2).2), k) q11_24 [] false C121_holds hq11_24 rfl rfl ?_)))
            refine (And.intro rfl (And.intro rfl (And.intro rfl (And.intro rfl (And.intro (fun h => nomatch h) (And.intro rfl (And.intro rfl (And.intro trivial (And.intro trivial ?_)))))))))
            refine Or.inl ?_
            have hz := someE hF
            subst hz
            refine Exists.intro [] (Exists.intro [] (Exists.intro [] (Exists.intro [] (Exists.intro [(0, some 0), (1, some 1), (2, some 2), (3, some 3), (4, some 4)] (And.intro rfl (And.intro rfl (And.intro (And.intro rfl (And.intro rfl trivial)) (And.intro rfl (And.intro rfl (And.intro rfl (And.intro rfl (And.intro rfl trivial))))))))))))
        · refine And.intro ?_ trivial
          refine Or.inl ?_
          refine Or.inl ?_
          refine condI hF (fun hF => ?_) (fun hF => ?_)
          · refine Or.inl ?_
            have hy := someE hF
            subst hy
            refine And.intro rfl (Exists.intro [] (Exists.intro [] (Exists.intro [] (Exists.intro [] (Exists.intro [(0, some 0), (2, some 1)] (And.intro rfl (And.intro rfl (And.intro rfl (And.intro trivial (And.intro rfl (And.intro rfl trivial)))))))))))
          · refine Or.inl ?_
            obtain ⟨r14, hr14, hF⟩ := bindE hF
            refine Or.inl (And.intro f92_in (callV0 (callI C92 (z4a, (op, a, z12.2.1, z9, z12.2.2.1, z12.2.2.2)) r14 [(0, some 0), (1, some 1)] false C92_holds hr14 rfl rfl ?_)))
            refine (And.intro rfl (And.intro rfl (And.intro (fun h => nomatch h) (And.intro rfl (And.intro rfl (And.intro (And.intro rfl trivial) (And.intro (And.intro rfl (And.intro rfl trivial)) ?_)))))))
            have hy := someE hF
            subst hy
            refine And.intro rfl (Exists.intro [] (Exists.intro [] (Exists.intro [] (Exists.intro [] (Exists.intro [(0, some 0), (2, some 7)] (And.intro rfl (And.intro rfl (And.intro rfl (And.intro trivial (And.intro rfl (And.intro rfl trivial)))))))))))
    · dsimp only [sumF] at hF
      refine And.intro ?_ trivial
      have hy := someE hF
      subst hy
      refine And.intro rfl (Exists.intro [] (Exists.intro [] (Exists.intro [] (Exists.intro [] (Exists.intro [(0, some 0), (2, some 1)] (And.intro rfl (And.intro rfl (And.intro rfl (And.intro trivial (And.intro rfl (And.intro rfl trivial)))))))))))
theorem C93_holds : C93.Holds Tryz.prog 93 := holds_of_vc tab_ok mixed (fn := Tryz.f93) (by kernel_rfl) rfl C93 (fun x y hF => C93_vc x.1 x.2.1 x.2.2.1 x.2.2.2.1 x.2.2.2.2 y hF)
theorem f93_in : ∃ fn, Tryz.prog.funcs[93]? = some fn ∧ fn.body.isSome = true ∧ (fn.name == "runtime.NumGoroutine") = false := ⟨Tryz.f93, by kernel_rfl, by kernel_rfl, by kernel_rfl⟩
end Go.Proofs
namespace Go.Proofs
open Go.AM
-- (*carousel/model.runner).do
def f71 (r_t_l : List (Int × Int × Int × Int × (List Int) × (List Int))) (r_e : Int) (r_p : List Int) (r_leafs : List Int) (op : Int) (a : Int) (b : Int) (k : Int) : Option (Int × Int × (List Int) × (List Int) × (List (Int × Int × Int × Int × (List Int) × (List Int)))) :=
  bif (r_e != (0 : Int)) then
    some ((0 : Int), r_e, r_p, r_leafs, r_t_l)
  else
    bindF (f93 r_t_l op a b k) fun r1 =>
    some (r1.1, r1.2.1, r_p, r_leafs, r1.2.2)
def C71 : Con where
  X := (List (Int × Int × Int × Int × (List Int) × (List Int))) × Int × (List Int) × (List Int) × Int × Int × Int × Int
  Y := Int × Int × (List Int) × (List Int) × (List (Int × Int × Int × Int × (List Int) × (List Int)))
  e := 4
  args x := [.raw false [(.ptr 0 0)], .dat (.int .i64) x.2.2.2.2.1, .dat (.int .i64) x.2.2.2.2.2.1, .dat (.int .i64) x.2.2.2.2.2.2.1, .dat (.int .i64) x.2.2.2.2.2.2.2]
  hin x := [(0, .cells [(.ptr 1 0), (.d (.int .i64) x.2.1), (.d (.sl (.int .i64)) x.2.2.1), (.osl 3)]), (1, .cells [(.osl 2)]), (2, .arr 61 (.p (.int .i64) (.p (.int .i64) (.p (.int .i64) (.p (.int .i64) (.p (.sl (.int .i64)) (.sl (.int .i64))))))) x.1), (3, .arr 3 (.int .i64) x.2.2.2.1)]
  F x := f71 x.1 x.2.1 x.2.2.1 x.2.2.2.1 x.2.2.2.2.1 x.2.2.2.2.2.1 x.2.2.2.2.2.2.1 x.2.2.2.2.2.2.2
  ret y := [.dat (.int .i64) y.1]
  hout y := [(0, .cells [(.ptr 1 0), (.d (.int .i64) y.2.1), (.d (.sl (.int .i64)) y.2.2.1), (.osl 3)]), (1, .cells [(.osl 4)]), (3, .arr 3 (.int .i64) y.2.2.2.1), (4, .arr 61 (.p (.int .i64) (.p (.int .i64) (.p (.int .i64) (.p (.int .i64) (.p (.sl (.int .i64)) (.sl (.int .i64))))))) y.2.2.2.2)]
  nout := 5
theorem C71_vc (r_t_l : List (Int × Int × Int × Int × (List Int) × (List Int))) (r_e : Int) (r_p : List Int) (r_leafs : List Int) (op : Int) (a : Int) (b : Int) (k : Int) (y : Int × Int × (List Int) × (List Int) × (List (Int × Int × Int × Int × (List Int) × (List Int)))) (hF : f71 r_t_l r_e r_p r_leafs op a b k = some y) : vc Tryz.prog tab Tryz.f71.ntmps 4 (match Tryz.f71.body with | some c => c | none => .skip) (retK tab C71 Tryz.f71.results.toList y) (C71.shIn (r_t_l, r_e, r_p, r_leafs, op, a, b, k)).st := by
  unfold f71 at hF
  refine Or.inl ?_
  refine Or.inl ?_
  refine Or.inl ?_
  refine condI hF (fun hF => ?_) (fun hF => ?_)
  · refine Or.inl ?_
    have hy := someE hF
    subst hy
    refine And.intro rfl (Exists.intro [] (Exists.intro [] (Exists.intro [] (Exists.intro [] (Exists.intro [(0, some 0), (1, some 1), (3, some 3), (4, some 2)] (And.intro rfl (And.intro rfl (And.intro trivial (And.intro rfl (And.intro rfl (And.intro rfl (And.intro rfl trivial))))))))))))
  · refine Or.inl ?_
    obtain ⟨r1, hr1, hF⟩ := bindE hF
    refine Or.inl (And.intro f93_in (callV0 (callI C93 (r_t_l, op, a, b, k) r1 [(0, some 1), (1, some 2)] false C93_holds hr1 rfl rfl ?_)))
    refine (And.intro rfl (And.intro rfl (And.intro rfl (And.intro rfl (And.intro (fun h => nomatch h) (And.intro rfl (And.intro rfl (And.intro (And.intro rfl trivial) (And.intro (And.intro rfl (And.intro rfl trivial)) ?_)))))))))
    refine Or.inl ?_
    refine Or.inl ?_
    refine Or.inl ?_
    have hy := someE hF
    subst hy
    refine And.intro rfl (Exists.intro [] (Exists.intro [] (Exists.intro [] (Exists.intro [] (Exists.intro [(0, some 0), (1, some 1), (3, some 3), (4, some 6)] (And.intro rfl (And.intro rfl (And.intro trivial (And.intro rfl (And.intro rfl (And.intro rfl (And.intro rfl trivial))))))))))))
theorem C71_holds : C71.Holds Tryz.prog 71 := holds_of_vc tab_ok mixed (fn := Tryz.f71) (by kernel_rfl) rfl C71 (fun x y hF => C71_vc x.1 x.2.1 x.2.2.1 x.2.2.2.1 x.2.2.2.2.1 x.2.2.2.2.2.1 x.2.2.2.2.2.2.1 x.2.2.2.2.2.2.2 y hF)
theorem f71_in : ∃ fn, Tryz.prog.funcs[71]? = some fn ∧ fn.body.isSome = true ∧ (fn.name == "runtime.NumGoroutine") = false := ⟨Tryz.f71, by kernel_rfl, by kernel_rfl, by kernel_rfl⟩
end Go.Proofs
namespace Go.Proofs
open Go.AM
-- (*carousel/model.runner).layer
def f44_j1 (in_ : List Int) (x_ : Int) (r2 : Int × Int × Int × (List Int) × (List Int) × (List (Int × Int × Int × Int × (List Int) × (List Int)))) : Option (Int × Int × (List Int) × (List Int) × (List (Int × Int × Int × Int × (List Int) × (List Int)))) :=
  bif ((List.length in_ : Int) == (2 : Int)) then
    bindF (f71 r2.2.2.2.2.2 r2.2.2.1 r2.2.2.2.1 r2.2.2.2.2.1 (14 : Int) x_ (0 : Int) (0 : Int)) fun r5 =>
    some (r5.1, r5.2.1, r5.2.2.1, r5.2.2.2.1, r5.2.2.2.2)
  else
    some (x_, r2.2.2.1, r2.2.2.2.1, r2.2.2.2.2.1, r2.2.2.2.2.2)
def f44 (r_t_l : List (Int × Int × Int × Int × (List Int) × (List Int))) (r_e : Int) (r_p : List Int) (r_leafs : List Int) (l : ByteArray × Int × Int) (in_ : List Int) (x_ : Int) (ahead : Int) : Option (Int × Int × (List Int) × (List Int) × (List (Int × Int × Int × Int × (List Int) × (List Int)))) :=
  bindF (f64 (l.1, l.2.1, l.2.2) in_) fun r1 =>
  bindF (f70 r_t_l r_e r_p r_leafs r1) fun r2 =>
  bif (ByteArray.toList l.1 == ByteArray.toList (ByteArray.mk #[100, 101, 110, 115, 101])) then
    bindF (f44_j1 in_ x_ r2) fun z4 =>
    bindF (f71 z4.2.2.2.2 z4.2.1 z4.2.2.1 z4.2.2.2.1 (4 : Int) r2.1 z4.1 (0 : Int)) fun r6 =>
    bindF (f71 r6.2.2.2.2 r6.2.1 r6.2.2.1 r6.2.2.2.1 (8 : Int) r6.1 (0 : Int) (1 : Int)) fun r7 =>
    bindF (f71 r7.2.2.2.2 r7.2.1 r7.2.2.1 r7.2.2.2.1 (2 : Int) r7.1 r2.2.1 (0 : Int)) fun r8 =>
    some (r8.1, r8.2.1, r8.2.2.1, r8.2.2.2.1, r8.2.2.2.2)
  else
    bif (ByteArray.toList l.1 == ByteArray.toList (ByteArray.mk #[99, 111, 110, 118])) then
      bindF (f71 r2.2.2.2.2.2 r2.2.2.1 r2.2.2.2.1 r2.2.2.2.2.1 (12 : Int) x_ r2.1 (1 : Int)) fun r9 =>
      some (r9.1, r9.2.1, r9.2.2.1, r9.2.2.2.1, r9.2.2.2.2)
    else
      bif (ByteArray.toList l.1 == ByteArray.toList (ByteArray.mk #[112, 111, 111, 108])) then
        bindF (f71 r2.2.2.2.2.2 r2.2.2.1 r2.2.2.2.1 r2.2.2.2.2.1 (13 : Int) x_ (0 : Int) l.2.1) fun r10 =>
        some (r10.1, r10.2.1, r10.2.2.1, r10.2.2.2.1, r10.2.2.2.2)
      else
        bif (ByteArray.toList l.1 == ByteArray.toList (ByteArray.mk #[98, 101, 110, 100])) then
          bindF (f71 r2.2.2.2.2.2 r2.2.2.1 r2.2.2.2.1 r2.2.2.2.2.1 (11 : Int) x_ (0 : Int) l.2.1) fun r11 =>
          some (r11.1, r11.2.1, r11.2.2.1, r11.2.2.2.1, r11.2.2.2.2)
        else
          bindF (f71 r2.2.2.2.2.2 r2.2.2.1 r2.2.2.2.1 r2.2.2.2.2.1 (2 : Int) ahead x_ (0 : Int)) fun r12 =>
          some (r12.1, r12.2.1, r12.2.2.1, r12.2.2.2.1, r12.2.2.2.2)
def C44 : Con where
  X := (List (Int × Int × Int × Int × (List Int) × (List Int))) × Int × (List Int) × (List Int) × (ByteArray × Int × Int) × (List Int) × Int × Int
  Y := Int × Int × (List Int) × (List Int) × (List (Int × Int × Int × Int × (List Int) × (List Int)))
  e := 4
  args x := [.raw false [(.ptr 0 0)], .dat (.p .str (.p (.int .i64) (.int .i64))) x.2.2.2.2.1, .dat (.sl (.int .i64)) x.2.2.2.2.2.1, .dat (.int .i64) x.2.2.2.2.2.2.1, .dat (.int .i64) x.2.2.2.2.2.2.2]
  hin x := [(0, .cells [(.ptr 1 0), (.d (.int .i64) x.2.1), (.d (.sl (.int .i64)) x.2.2.1), (.osl 3)]), (1, .cells [(.osl 2)]), (2, .arr 61 (.p (.int .i64) (.p (.int .i64) (.p (.int .i64) (.p (.int .i64) (.p (.sl (.int .i64)) (.sl (.int .i64))))))) x.1), (3, .arr 3 (.int .i64) x.2.2.2.1)]
  F x := f44 x.1 x.2.1 x.2.2.1 x.2.2.2.1 x.2.2.2.2.1 x.2.2.2.2.2.1 x.2.2.2.2.2.2.1 x.2.2.2.2.2.2.2
  ret y := [.dat (.int .i64) y.1]
  hout y := [(0, .cells [(.ptr 1 0), (.d (.int .i64) y.2.1), (.d (.sl (.int .i64)) y.2.2.1), (.osl 4)]), (1, .cells [(.osl 5)]), (4, .arr 3 (.int .i64) y.2.2.2.1), (5, .arr 61 (.p (.int .i64) (.p (.int .i64) (.p (.int .i64) (.p (.int .i64) (.p (.sl (.int .i64)) (.sl (.int .i64))))))) y.2.2.2.2)]
  nout := 6
theorem C44_vc (r_t_l : List (Int × Int × Int × Int × (List Int) × (List Int))) (r_e : Int) (r_p : List Int) (r_leafs : List Int) (l : ByteArray × Int × Int) (in_ : List Int) (x_ : Int) (ahead : Int) (y : Int × Int × (List Int) × (List Int) × (List (Int × Int × Int × Int × (List Int) × (List Int)))) (hF : f44 r_t_l r_e r_p r_leafs l in_ x_ ahead = some y) : vc Tryz.prog tab Tryz.f44.ntmps 4 (match Tryz.f44.body with | some c => c | none => .skip) (retK tab C44 Tryz.f44.results.toList y) (C44.shIn (r_t_l, r_e, r_p, r_leafs, l, in_, x_, ahead)).st := by
  unfold f44 at hF
  refine Or.inl ?_
  refine Or.inl ?_
  obtain ⟨r1, hr1, hF⟩ := bindE hF
  refine Or.inl (And.intro f64_in (callV0 (callI C64 ((l.1, l.2.1, l.2.2), in_) r1 [] false C64_holds hr1 rfl rfl ?_)))
  refine (And.intro rfl (And.intro rfl (And.intro rfl (And.intro (fun h => nomatch h) (And.intro rfl (And.intro rfl (And.intro trivial (And.intro trivial ?_))))))))
  obtain ⟨r2, hr2, hF⟩ := bindE hF
  refine Or.inl (And.intro f70_in (callV0 (callI C70 (r_t_l, r_e, r_p, r_leafs, r1) r2 [(0, some 0), (1, some 1), (2, some 2), (3, some 3)] false C70_holds hr2 rfl rfl ?_)))
  refine (And.intro rfl (And.intro (fun h => nomatch h) (And.intro rfl (And.intro rfl (And.intro (And.intro rfl trivial) (And.intro (And.intro rfl (And.intro rfl (And.intro rfl (And.intro rfl trivial)))) ?_))))))
  refine Or.inl ?_
  refine Or.inl ?_
  refine Or.inl ?_
  refine condI hF (fun hF => ?_) (fun hF => ?_)
  · obtain ⟨z4, hz4, hF⟩ := bindE hF
    refine Or.inr ⟨[(0, ⟨[(0, .raw false [(.ptr 0 0)]), (3, .dat (.int .i64) z4.1), (11, .dat (.int .i64) r2.1), (12, .dat (.int .i64) r2.2.1)], [(0, .cells [(.ptr 1 0), (.d (.int .i64) z4.2.1), (.d (.sl (.int .i64)) z4.2.2.1), (.osl 4)]), (1, .cells [(.osl 5)]), (4, .arr 3 (.int .i64) z4.2.2.2.1), (5, .arr 61 (.p (.int .i64) (.p (.int .i64) (.p (.int .i64) (.p (.int .i64) (.p (.sl (.int .i64)) (.sl (.int .i64))))))) z4.2.2.2.2)], 6⟩)], ?_, ?_⟩
    · have hF := hz4
      clear hz4
      unfold f44_j1 at hF
      refine Or.inl ?_
      refine condI hF (fun hF => ?_) (fun hF => ?_)
      · obtain ⟨r5, hr5, hF⟩ := bindE hF
        refine Or.inl (And.intro f71_in (callV0 (callI C71 (r2.2.2.2.2.2, r2.2.2.1, r2.2.2.2.1, r2.2.2.2.2.1, (14 : Int), x_, (0 : Int), (0 : Int)) r5 [(0, some 0), (1, some 1), (2, some 11), (3, some 10)] false C71_holds hr5 rfl rfl ?_)))
        refine (And.intro rfl (And.intro rfl (And.intro rfl (And.intro rfl (And.intro (fun h => nomatch h) (And.intro rfl (And.intro rfl (And.intro (And.intro rfl trivial) (And.intro (And.intro rfl (And.intro rfl (And.intro rfl (And.intro rfl trivial)))) ?_)))))))))
        have hz := someE hF
        subst hz
        refine Exists.intro [] (Exists.intro [] (Exists.intro [] (Exists.intro [] (Exists.intro [(0, some 0), (1, some 1), (4, some 10), (5, some 16)] (And.intro rfl (And.intro rfl (And.intro rfl (And.intro rfl (And.intro (And.intro rfl trivial) (And.intro rfl (And.intro rfl (And.intro rfl (And.intro rfl trivial)))))))))))))
      · have hz := someE hF
        subst hz
        refine Exists.intro [] (Exists.intro [] (Exists.intro [] (Exists.intro [] (Exists.intro [(0, some 0), (1, some 1), (4, some 10), (5, some 11)] (And.intro rfl (And.intro rfl (And.intro rfl (And.intro rfl (And.intro (And.intro rfl trivial) (And.intro rfl (And.intro rfl (And.intro rfl (And.intro rfl trivial)))))))))))))
    · refine And.intro ?_ trivial
      refine Or.inl ?_
      obtain ⟨r6, hr6, hF⟩ := bindE hF
      refine Or.inl (And.intro f71_in (callV0 (callI C71 (z4.2.2.2.2, z4.2.1, z4.2.2.1, z4.2.2.2.1, (4 : Int), r2.1, z4.1, (0 : Int)) r6 [(0, some 0), (1, some 1), (2, some 5), (3, some 4)] false C71_holds hr6 rfl rfl ?_)))
      refine (And.intro rfl (And.intro rfl (And.intro rfl (And.intro rfl (And.intro (fun h => nomatch h) (And.intro rfl (And.intro rfl (And.intro (And.intro rfl trivial) (And.intro (And.intro rfl (And.intro rfl (And.intro rfl (And.intro rfl trivial)))) ?_)))))))))
      obtain ⟨r7, hr7, hF⟩ := bindE hF
      refine Or.inl (And.intro f71_in (callV0 (callI C71 (r6.2.2.2.2, r6.2.1, r6.2.2.1, r6.2.2.2.1, (8 : Int), r6.1, (0 : Int), (1 : Int)) r7 [(0, some 0), (1, some 1), (2, some 10), (3, some 4)] false C71_holds hr7 rfl rfl ?_)))
      refine (And.intro rfl (And.intro rfl (And.intro rfl (And.intro rfl (And.intro (fun h => nomatch h) (And.intro rfl (And.intro rfl (And.intro (And.intro rfl trivial) (And.intro (And.intro rfl (And.intro rfl (And.intro rfl (And.intro rfl trivial)))) ?_)))))))))
      refine Or.inl ?_
      obtain ⟨r8, hr8, hF⟩ := bindE hF
      refine Or.inl (And.intro f71_in (callV0 (callI C71 (r7.2.2.2.2, r7.2.1, r7.2.2.1, r7.2.2.2.1, (2 : Int), r7.1, r2.2.1, (0 : Int)) r8 [(0, some 0), (1, some 1), (2, some 15), (3, some 4)] false C71_holds hr8 rfl rfl ?_)))
      refine (And.intro rfl (And.intro rfl (And.intro rfl (And.intro rfl (And.intro (fun h => nomatch h) (And.intro rfl (And.intro rfl (And.intro (And.intro rfl trivial) (And.intro (And.intro rfl (And.intro rfl (And.intro rfl (And.intro rfl trivial)))) ?_)))))))))
      have hy := someE hF
      subst hy
      refine And.intro rfl (Exists.intro [] (Exists.intro [] (Exists.intro [] (Exists.intro [] (Exists.intro [(0, some 0), (1, some 1), (4, some 4), (5, some 20)] (And.intro rfl (And.intro rfl (And.intro trivial (And.intro rfl (And.intro rfl (And.intro rfl (And.intro rfl trivial))))))))))))
  · refine Or.inl ?_
    refine condI hF (fun hF => ?_) (fun hF => ?_)
    · refine Or.inl ?_
      obtain ⟨r9, hr9, hF⟩ := bindE hF
      refine Or.inl (And.intro f71_in (callV0 (callI C71 (r2.2.2.2.2.2, r2.2.2.1, r2.2.2.2.1, r2.2.2.2.2.1, (12 : Int), x_, r2.1, (1 : Int)) r9 [(0, some 0), (1, some 1), (2, some 11), (3, some 10)] false C71_holds hr9 rfl rfl ?_)))
      refine (And.intro rfl (And.intro rfl (And.intro rfl (And.intro rfl (And.intro (fun h => nomatch h) (And.intro rfl (And.intro rfl (And.intro (And.intro rfl trivial) (And.intro (And.intro rfl (And.intro rfl (And.intro rfl (And.intro rfl trivial)))) ?_)))))))))
      have hy := someE hF
      subst hy
      refine And.intro rfl (Exists.intro [] (Exists.intro [] (Exists.intro [] (Exists.intro [] (Exists.intro [(0, some 0), (1, some 1), (4, some 10), (5, some 16)] (And.intro rfl (And.intro rfl (And.intro trivial (And.intro rfl (And.intro rfl (And.intro rfl (And.intro rfl trivial))))))))))))
    · refine Or.inl ?_
      refine condI hF (fun hF => ?_) (fun hF => ?_)
      · refine Or.inl ?_
        obtain ⟨r10, hr10, hF⟩ := bindE hF
        refine Or.inl (And.intro f71_in (callV0 (callI C71 (r2.2.2.2.2.2, r2.2.2.1, r2.2.2.2.1, r2.2.2.2.2.1, (13 : Int), x_, (0 : Int), l.2.1) r10 [(0, some 0), (1, some 1), (2, some 11), (3, some 10)] false C71_holds hr10 rfl rfl ?_)))
        refine (And.intro rfl (And.intro rfl (And.intro rfl (And.intro rfl (And.intro (fun h => nomatch h) (And.intro rfl (And.intro rfl (And.intro (And.intro rfl trivial) (And.intro (And.intro rfl (And.intro rfl (And.intro rfl (And.intro rfl trivial)))) ?_)))))))))
        have hy := someE hF
        subst hy
        refine And.intro rfl (Exists.intro [] (Exists.intro [] (Exists.intro [] (Exists.intro [] (Exists.intro [(0, some 0), (1, some 1), (4, some 10), (5, some 16)] (And.intro rfl (And.intro rfl (And.intro trivial (And.intro rfl (And.intro rfl (And.intro rfl (And.intro rfl trivial))))))))))))
      · refine Or.inl ?_
        refine condI hF (fun hF => ?_) (fun hF => ?_)
        · refine Or.inl ?_
          obtain ⟨r11, hr11, hF⟩ := bindE hF
          refine Or.inl (And.intro f71_in (callV0 (callI C71 (r2.2.2.2.2.2, r2.2.2.1, r2.2.2.2.1, r2.2.2.2.2.1, (11 : Int), x_, (0 : Int), l.2.1) r11 [(0, some 0), (1, some 1), (2, some 11), (3, some 10)] false C71_holds hr11 rfl rfl ?_)))
          refine (And.intro rfl (And.intro rfl (And.intro rfl (And.intro rfl (And.intro (fun h => nomatch h) (And.intro rfl (And.intro rfl (And.intro (And.intro rfl trivial) (And.intro (And.intro rfl (And.intro rfl (And.intro rfl (And.intro rfl trivial)))) ?_)))))))))
          have hy := someE hF
          subst hy
          refine And.intro rfl (Exists.intro [] (Exists.intro [] (Exists.intro [] (Exists.intro [] (Exists.intro [(0, some 0), (1, some 1), (4, some 10), (5, some 16)] (And.intro rfl (And.intro rfl (And.intro trivial (And.intro rfl (And.intro rfl (And.intro rfl (And.intro rfl trivial))))))))))))
        · refine Or.inl ?_
          obtain ⟨r12, hr12, hF⟩ := bindE hF
          refine Or.inl (And.intro f71_in (callV0 (callI C71 (r2.2.2.2.2.2, r2.2.2.1, r2.2.2.2.1, r2.2.2.2.2.1, (2 : Int), ahead, x_, (0 : Int)) r12 [(0, some 0), (1, some 1), (2, some 11), (3, some 10)] false C71_holds hr12 rfl rfl ?_)))
          refine (And.intro rfl (And.intro rfl (And.intro rfl (And.intro rfl (And.intro (fun h => nomatch h) (And.intro rfl (And.intro rfl (And.intro (And.intro rfl trivial) (And.intro (And.intro rfl (And.intro rfl (And.intro rfl (And.intro rfl trivial)))) ?_)))))))))
          have hy := someE hF
          subst hy
          refine And.intro rfl (Exists.intro [] (Exists.intro [] (Exists.intro [] (Exists.intro [] (Exists.intro [(0, some 0), (1, some 1), (4, some 10), (5, some 16)] (And.intro rfl (And.intro rfl (And.intro trivial (And.intro rfl (And.intro rfl (And.intro rfl (And.intro rfl trivial))))))))))))
theorem C44_holds : C44.Holds Tryz.prog 44 := holds_of_vc tab_ok mixed (fn := Tryz.f44) (by kernel_rfl) rfl C44 (fun x y hF => C44_vc x.1 x.2.1 x.2.2.1 x.2.2.2.1 x.2.2.2.2.1 x.2.2.2.2.2.1 x.2.2.2.2.2.2.1 x.2.2.2.2.2.2.2 y hF)
theorem f44_in : ∃ fn, Tryz.prog.funcs[44]? = some fn ∧ fn.body.isSome = true ∧ (fn.name == "runtime.NumGoroutine") = false := ⟨Tryz.f44, by kernel_rfl, by kernel_rfl, by kernel_rfl⟩
end Go.Proofs
namespace Go.Proofs
open Go.AM
-- (*carousel/tape.Tape).Cut
def f45 (t_l : List (Int × Int × Int × Int × (List Int) × (List Int))) (n : Int) : Option (List (Int × Int × Int × Int × (List Int) × (List Int))) :=
  guardF (0 ≤ (if (List.length t_l : Int) < (if (0 : Int) > n then (0 : Int) else n) then (List.length t_l : Int) else (if (0 : Int) > n then (0 : Int) else n)) ∧ (if (List.length t_l : Int) < (if (0 : Int) > n then (0 : Int) else n) then (List.length t_l : Int) else (if (0 : Int) > n then (0 : Int) else n)) ≤ (List.length t_l : Int)) <|
  some (List.take (Int.toNat (if (List.length t_l : Int) < (if (0 : Int) > n then (0 : Int) else n) then (List.length t_l : Int) else (if (0 : Int) > n then (0 : Int) else n))) t_l)
def C45 : Con where
  X := (List (Int × Int × Int × Int × (List Int) × (List Int))) × Int
  Y := List (Int × Int × Int × Int × (List Int) × (List Int))
  e := 2
  args x := [.raw false [(.ptr 0 0)], .dat (.int .i64) x.2]
  hin x := [(0, .cells [(.osl 1)]), (1, .arr 61 (.p (.int .i64) (.p (.int .i64) (.p (.int .i64) (.p (.int .i64) (.p (.sl (.int .i64)) (.sl (.int .i64))))))) x.1)]
  F x := f45 x.1 x.2
  ret y := []
  hout y := [(0, .cells [(.osl 2)]), (2, .arr 61 (.p (.int .i64) (.p (.int .i64) (.p (.int .i64) (.p (.int .i64) (.p (.sl (.int .i64)) (.sl (.int .i64))))))) y)]
  nout := 3
theorem C45_vc (t_l : List (Int × Int × Int × Int × (List Int) × (List Int))) (n : Int) (y : List (Int × Int × Int × Int × (List Int) × (List Int))) (hF : f45 t_l n = some y) : vc Tryz.prog tab Tryz.f45.ntmps 2 (match Tryz.f45.body with | some c => c | none => .skip) (retK tab C45 Tryz.f45.results.toList y) (C45.shIn (t_l, n)).st := by
  unfold f45 at hF
  refine Exists.intro (.take 0 (.take 1 (.take 2 (.take 3 (.take 4 (.take 5 (.take 6 (.take 7 (.take 8 (.take 9 (.take 10 (.take 11 (.take 12 (.alt 13 (.take 14 (.take 15 (.alt 16 .done .done))) .done)))))))))))))) (Exists.intro [(16, [0])] (Exists.intro [] (And.intro rfl ?_)))
  refine And.intro trivial ?_
  refine Or.inr (Or.inr ?_)
  refine guardI hF (fun hF => ?_)
  refine And.intro trivial ?_
  refine Or.inl ?_
  have hy := someE hF
  subst hy
  refine And.intro rfl (Exists.intro [] (Exists.intro [] (Exists.intro [] (Exists.intro [] (Exists.intro [(0, some 0), (2, some 2)] (And.intro rfl (And.intro trivial (And.intro rfl (And.intro rfl trivial)))))))))
theorem C45_holds : C45.Holds Tryz.prog 45 := holds_of_vc tab_ok mixed (fn := Tryz.f45) (by kernel_rfl) rfl C45 (fun x y hF => C45_vc x.1 x.2 y hF)
theorem f45_in : ∃ fn, Tryz.prog.funcs[45]? = some fn ∧ fn.body.isSome = true ∧ (fn.name == "runtime.NumGoroutine") = false := ⟨Tryz.f45, by kernel_rfl, by kernel_rfl, by kernel_rfl⟩
end Go.Proofs
namespace Go.Proofs
open Go.AM
-- carousel/model.Run
def f21_j3 (n : (List Int) × (List (ByteArray × Int × Int))) (p_ : List Int) (x_ : List Int) (r1 : Int × Bool) : Option Bool :=
  bif ((List.length p_ : Int) != r1.1) then
    some true
  else
    bindF (f42 n.1) fun r8 =>
    some ((List.length x_ : Int) != r8)
def f21_j2 (n : (List Int) × (List (ByteArray × Int × Int))) (p_ : List Int) (x_ : List Int) (r1 : Int × Bool) : Option (Sum Unit Unit) :=
  bindF (f21_j3 n p_ x_ r1) fun z7 =>
  bif z7 then
    some (Sum.inr ())
  else
    some (Sum.inl ())
def f21_l4 (n : (List Int) × (List (ByteArray × Int × Int))) (q18_7 : Int × (List (List Int))) (go : (Int × Int × Int × Int × (List Int) × (List (Int × Int × Int × Int × (List Int) × (List Int))) × (List Int)) → Option (Int × Int × (List Int) × (List (Int × Int × Int × Int × (List Int) × (List Int))) × (List Int))) (at_ : Int) (ahead : Int) (v62 : Int) (c3_1 : Int) (c3_2 : List Int) (l4 : List (Int × Int × Int × Int × (List Int) × (List Int))) (l5 : List Int) : Option (Int × Int × (List Int) × (List (Int × Int × Int × Int × (List Int) × (List Int))) × (List Int)) :=
  bif (decide (v62 < (List.length n.2 : Int))) then
    guardF (0 ≤ v62 ∧ v62 < (List.length n.2 : Int)) <|
    guardF (0 ≤ v62 ∧ v62 < (List.length q18_7.2 : Int)) <|
    bindF (f44 l4 c3_1 c3_2 l5 ((rd (Ty.z (.p .str (.p (.int .i64) (.int .i64)))) n.2 v62).1, ((rd (Ty.z (.p .str (.p (.int .i64) (.int .i64)))) n.2 v62).2).1, ((rd (Ty.z (.p .str (.p (.int .i64) (.int .i64)))) n.2 v62).2).2) (rd (Ty.z (.sl (.int .i64))) q18_7.2 v62) at_ ahead) fun q12_8 =>
    go (q12_8.1, at_, (IntKind.i64.wrap (v62 + (1 : Int))), q12_8.2.1, q12_8.2.2.1, q12_8.2.2.2.2, q12_8.2.2.2.1)
  else
    some (at_, c3_1, c3_2, l4, l5)
def f21 (t_l : List (Int × Int × Int × Int × (List Int) × (List Int))) (n : (List Int) × (List (ByteArray × Int × Int))) (p_ : List Int) (x_ : List Int) : Option (Int × Int × (List Int) × (List (Int × Int × Int × Int × (List Int) × (List Int)))) :=
  bindF (f11 (n.1, n.2)) fun q18_7 =>
  bif (q18_7.1 != (0 : Int)) then
    some ((0 : Int), q18_7.1, [], t_l)
  else
    bindF (f36 (n.1, n.2) q18_7.2) fun r1 =>
    bindF (f21_j2 n p_ x_ r1) fun z5 =>
    sumF z5 (fun z5a =>
      bindF (f25 t_l) fun r9 =>
      bindF (f43 r9.2 (0 : Int) p_ ([]) n.1 x_) fun r10 =>
      bindF (loopF (fun go x => f21_l4 n q18_7 go x.1 x.2.1 x.2.2.1 x.2.2.2.1 x.2.2.2.2.1 x.2.2.2.2.2.1 x.2.2.2.2.2.2) fuelN (r10.1, (0 : Int), (0 : Int), r10.2.1, r10.2.2.1, r10.2.2.2.2, r10.2.2.2.1)) fun z11 =>
      bif (z11.2.1 != (0 : Int)) then
        bindF (f45 z11.2.2.2.1 r9.1) fun q12_9 =>
        some ((0 : Int), z11.2.1, [], q12_9)
      else
        some (z11.1, (0 : Int), z11.2.2.2.2, z11.2.2.2.1)) (fun z5b =>
      some ((0 : Int), (1 : Int), [], t_l))
def C21 : Con where
  X := (List (Int × Int × Int × Int × (List Int) × (List Int))) × ((List Int) × (List (ByteArray × Int × Int))) × (List Int) × (List Int)
  Y := Int × Int × (List Int) × (List (Int × Int × Int × Int × (List Int) × (List Int)))
  e := 2
  args x := [.raw false [(.ptr 0 0)], .dat (.p (.sl (.int .i64)) (.sl (.p .str (.p (.int .i64) (.int .i64))))) x.2.1, .dat (.sl (.int .i64)) x.2.2.1, .dat (.sl (.int .i64)) x.2.2.2]
  hin x := [(0, .cells [(.osl 1)]), (1, .arr 61 (.p (.int .i64) (.p (.int .i64) (.p (.int .i64) (.p (.int .i64) (.p (.sl (.int .i64)) (.sl (.int .i64))))))) x.1)]
  F x := f21 x.1 x.2.1 x.2.2.1 x.2.2.2
  ret y := [.dat (.int .i64) y.1, .raw false [(.osl 2)], .dat (.int .i64) y.2.1]
  hout y := [(0, .cells [(.osl 3)]), (2, .arr 3 (.int .i64) y.2.2.1), (3, .arr 61 (.p (.int .i64) (.p (.int .i64) (.p (.int .i64) (.p (.int .i64) (.p (.sl (.int .i64)) (.sl (.int .i64))))))) y.2.2.2)]
  nout := 4
theorem C21_vc (t_l : List (Int × Int × Int × Int × (List Int) × (List Int))) (n : (List Int) × (List (ByteArray × Int × Int))) (p_ : List Int) (x_ : List Int) (y : Int × Int × (List Int) × (List (Int × Int × Int × Int × (List Int) × (List Int)))) (hF : f21 t_l n p_ x_ = some y) : vc Tryz.prog tab Tryz.f21.ntmps 2 (match Tryz.f21.body with | some c => c | none => .skip) (retK tab C21 Tryz.f21.results.toList y) (C21.shIn (t_l, n, p_, x_)).st := by
  unfold f21 at hF
  refine Or.inl ?_
  refine Or.inl ?_
  obtain ⟨q18_7, hq18_7, hF⟩ := bindE hF
  refine Or.inl (And.intro f11_in (callV0 (callI C11 (n.1, n.2) q18_7 [] false C11_holds hq18_7 rfl rfl ?_)))
  refine (And.intro rfl (And.intro rfl (And.intro (fun h => nomatch h) (And.intro rfl (And.intro rfl (And.intro trivial (And.intro trivial ?_)))))))
  refine Or.inl ?_
  refine Or.inl ?_
  refine condI hF (fun hF => ?_) (fun hF => ?_)
  · refine Or.inl ?_
    have hy := someE hF
    subst hy
    refine And.intro rfl (Exists.intro [] (Exists.intro [] (Exists.intro [] (Exists.intro [] (Exists.intro [(0, some 0), (2, none), (3, some 1)] (And.intro rfl (And.intro rfl (And.intro rfl (And.intro (And.intro rfl trivial) (And.intro rfl (And.intro rfl (And.intro rfl trivial))))))))))))
  · refine Or.inl ?_
    obtain ⟨r1, hr1, hF⟩ := bindE hF
    refine Or.inl (And.intro f36_in (callV0 (callI C36 ((n.1, n.2), q18_7.2) r1 [] true C36_holds hr1 rfl rfl ?_)))
    refine (And.intro rfl (And.intro rfl (And.intro rfl (And.intro (fun _ => rfl) (And.intro rfl (And.intro rfl (And.intro trivial (And.intro trivial ?_))))))))
    obtain ⟨z5, hz5, hF⟩ := bindE hF
    refine Or.inr ⟨Sum.elim (fun z5a => [(0, ⟨[(0, .raw false [(.ptr 0 0)]), (2, .dat (.sl (.int .i64)) p_), (3, .dat (.sl (.int .i64)) x_), (5, .raw false [(.ptr 2 0)]), (11, .raw false [(.osl 3)])], [(0, .cells [(.osl 1)]), (1, .arr 61 (.p (.int .i64) (.p (.int .i64) (.p (.int .i64) (.p (.int .i64) (.p (.sl (.int .i64)) (.sl (.int .i64))))))) t_l), (2, .cells [(.d (.sl (.int .i64)) n.1), (.d (.sl (.p .str (.p (.int .i64) (.int .i64)))) n.2)]), (3, .arr 23 (.sl (.int .i64)) q18_7.2)], 4⟩)]) (fun z5b => [(1, ⟨[(8, .dat (.int .i64) (0 : Int)), (9, .raw false [(.c (.slice none 0 0))]), (10, .dat (.int .i64) (1 : Int))], [(0, .cells [(.osl 1)]), (1, .arr 61 (.p (.int .i64) (.p (.int .i64) (.p (.int .i64) (.p (.int .i64) (.p (.sl (.int .i64)) (.sl (.int .i64))))))) t_l)], 2⟩)]) z5, ?_, ?_⟩
    · have hF := hz5
      clear hz5
      unfold f21_j2 at hF
      obtain ⟨z7, hz7, hF⟩ := bindE hF
      refine Or.inr ⟨[(0, ⟨[(0, .raw false [(.ptr 0 0)]), (2, .dat (.sl (.int .i64)) p_), (3, .dat (.sl (.int .i64)) x_), (5, .raw false [(.ptr 2 0)]), (11, .raw false [(.osl 3)]), (47, .dat .bool z7)], [(0, .cells [(.osl 1)]), (1, .arr 61 (.p (.int .i64) (.p (.int .i64) (.p (.int .i64) (.p (.int .i64) (.p (.sl (.int .i64)) (.sl (.int .i64))))))) t_l), (2, .cells [(.d (.sl (.int .i64)) n.1), (.d (.sl (.p .str (.p (.int .i64) (.int .i64)))) n.2)]), (3, .arr 23 (.sl (.int .i64)) q18_7.2)], 4⟩)], ?_, ?_⟩
      · have hF := hz7
        clear hz7
        unfold f21_j3 at hF
        refine condN hF (fun hF => ?_) (fun hF => ?_)
        · refine gdYF ?_
          refine gdYF ?_
          refine gdYF ?_
          refine gdYF ?_
          obtain ⟨r8, hr8, hF⟩ := bindE hF
          refine Or.inl (And.intro f42_in (callV0 (callI C42 n.1 r8 [] false C42_holds hr8 rfl rfl ?_)))
          refine (And.intro rfl (And.intro (fun h => nomatch h) (And.intro rfl (And.intro rfl (And.intro trivial (And.intro trivial ?_))))))
          refine gdYF ?_
          refine condF ?_
          have hz := someE hF
          subst hz
          refine Exists.intro [] (Exists.intro [] (Exists.intro [] (Exists.intro [] (Exists.intro [(0, some 0), (1, some 1), (2, some 2), (3, some 3)] (And.intro rfl (And.intro rfl (And.intro rfl (And.intro rfl (And.intro (And.intro rfl (And.intro rfl (And.intro rfl trivial))) (And.intro rfl (And.intro rfl (And.intro rfl (And.intro rfl trivial)))))))))))))
        · refine gdNF ?_
          refine gdNF ?_
          refine gdNF ?_
          refine gdNF ?_
          refine gdNF ?_
          refine condT ?_
          have hz := someE hF
          subst hz
          refine Exists.intro [] (Exists.intro [] (Exists.intro [] (Exists.intro [] (Exists.intro [(0, some 0), (1, some 1), (2, some 2), (3, some 3)] (And.intro rfl (And.intro rfl (And.intro rfl (And.intro rfl (And.intro (And.intro rfl (And.intro rfl (And.intro rfl trivial))) (And.intro rfl (And.intro rfl (And.intro rfl (And.intro rfl trivial)))))))))))))
      · refine And.intro ?_ trivial
        refine condI hF (fun hF => ?_) (fun hF => ?_)
        · refine Or.inl ?_
          have hz := someE hF
          subst hz
          refine Exists.intro [] (Exists.intro [] (Exists.intro [] (Exists.intro [] (Exists.intro [(0, some 0), (1, some 1)] (And.intro rfl (And.intro rfl (And.intro rfl (And.intro (And.intro rfl trivial) (And.intro rfl (And.intro rfl trivial))))))))))
        · have hz := someE hF
          subst hz
          refine Exists.intro [] (Exists.intro [] (Exists.intro [] (Exists.intro [] (Exists.intro [(0, some 0), (1, some 1), (2, some 2), (3, some 3)] (And.intro rfl (And.intro rfl (And.intro rfl (And.intro (And.intro rfl (And.intro rfl (And.intro rfl trivial))) (And.intro rfl (And.intro rfl (And.intro rfl (And.intro rfl trivial))))))))))))
    · rcases z5 with z5a | z5b
      · dsimp only [sumF] at hF
        refine And.intro ?_ trivial
        refine Or.inl ?_
        obtain ⟨r9, hr9, hF⟩ := bindE hF
        refine Or.inl (And.intro f25_in (callV0 (callI C25 t_l r9 [(0, some 0), (1, some 1)] false C25_holds hr9 rfl rfl ?_)))
        refine (And.intro (fun h => nomatch h) (And.intro rfl (And.intro rfl (And.intro (And.intro rfl trivial) (And.intro (And.intro rfl (And.intro rfl trivial)) ?_)))))
        refine Or.inl ?_
        obtain ⟨r10, hr10, hF⟩ := bindE hF
        refine Or.inl (And.intro f43_in (callVn [(4, 3, 3, (.int .i64))] (virtI rfl rfl (virt0 (callI C43 (r9.2, (0 : Int), p_, [], n.1, x_) r10 [(0, some 4), (1, some 0), (2, some 1), (3, some 7)] false C43_holds hr10 rfl rfl ?_)))))
        refine (And.intro rfl (And.intro rfl (And.intro (fun h => nomatch h) (And.intro rfl (And.intro rfl (And.intro (And.intro rfl trivial) (And.intro (And.intro rfl (And.intro rfl (And.intro rfl (And.intro rfl trivial)))) ?_)))))))
        refine Or.inl ?_
        refine Or.inl ?_
        obtain ⟨z11, hz11, hF⟩ := bindE hF
        refine loopI (Int × Int × Int × Int × (List Int) × (List (Int × Int × Int × Int × (List Int) × (List Int))) × (List Int)) (Int × Int × (List Int) × (List (Int × Int × Int × Int × (List Int) × (List Int))) × (List Int)) (fun x => ⟨[(0, .raw false [(.ptr 0 0)]), (11, .raw false [(.osl 2)]), (15, .raw false [(.ptr 3 0)]), (16, .dat (.int .i64) r9.1), (17, .dat (.int .i64) x.1), (18, .dat (.int .i64) x.2.1), (60, .dat (.sl (.p .str (.p (.int .i64) (.int .i64)))) n.2), (61, .dat (.int .i64) (List.length n.2 : Int)), (62, .dat (.int .i64) x.2.2.1)], [(0, .cells [(.osl 4)]), (2, .arr 23 (.sl (.int .i64)) q18_7.2), (3, .cells [(.ptr 0 0), (.d (.int .i64) x.2.2.2.1), (.d (.sl (.int .i64)) x.2.2.2.2.1), (.osl 5)]), (4, .arr 61 (.p (.int .i64) (.p (.int .i64) (.p (.int .i64) (.p (.int .i64) (.p (.sl (.int .i64)) (.sl (.int .i64))))))) x.2.2.2.2.2.1), (5, .arr 3 (.int .i64) x.2.2.2.2.2.2)], 6⟩) (fun z => [(2, ⟨[(0, .raw false [(.ptr 0 0)]), (15, .raw false [(.ptr 2 0)]), (16, .dat (.int .i64) r9.1), (17, .dat (.int .i64) z.1)], [(0, .cells [(.osl 3)]), (2, .cells [(.ptr 0 0), (.d (.int .i64) z.2.1), (.d (.sl (.int .i64)) z.2.2.1), (.osl 4)]), (3, .arr 61 (.p (.int .i64) (.p (.int .i64) (.p (.int .i64) (.p (.int .i64) (.p (.sl (.int .i64)) (.sl (.int .i64))))))) z.2.2.2.1), (4, .arr 3 (.int .i64) z.2.2.2.2)], 5⟩)]) (loopF (fun go x => f21_l4 n q18_7 go x.1 x.2.1 x.2.2.1 x.2.2.2.1 x.2.2.2.2.1 x.2.2.2.2.2.1 x.2.2.2.2.2.2)) fuelN (r10.1, (0 : Int), (0 : Int), r10.2.1, r10.2.2.1, r10.2.2.2.2, r10.2.2.2.1) z11 (And.intro hz11 (And.intro (Exists.intro [] (Exists.intro [] (Exists.intro [] (Exists.intro [] (Exists.intro [(0, some 0), (2, some 3), (3, some 4), (4, some 12), (5, some 7)] (And.intro rfl (And.intro rfl (And.intro rfl (And.intro rfl (And.intro rfl (And.intro rfl (And.intro rfl (And.intro (And.intro rfl (And.intro rfl (And.intro rfl trivial))) (And.intro rfl (And.intro rfl (And.intro rfl (And.intro rfl (And.intro rfl trivial)))))))))))))))))) (And.intro (fun _ _ h => loopZ h) (And.intro (fun m => curI (fun at_ => curI (fun ahead => curI (fun v62 => curI (fun c3_1 => curI (fun c3_2 => curI (fun l4 => fun l5 z hF => ?_))))))) ?_))))
        · have hF : f21_l4 n q18_7 (loopF (fun go x => f21_l4 n q18_7 go x.1 x.2.1 x.2.2.1 x.2.2.2.1 x.2.2.2.2.1 x.2.2.2.2.2.1 x.2.2.2.2.2.2) m) at_ ahead v62 c3_1 c3_2 l4 l5 = some z := hF
          unfold f21_l4 at hF
          refine Or.inl ?_
          refine Or.inl ?_
          refine condI hF (fun hF => ?_) (fun hF => ?_)
          · refine Or.inl ?_
            refine Or.inl ?_
            refine guardI hF (fun hF => ?_)
            refine Or.inl ?_
            refine Or.inl ?_
            refine Exists.intro (.take 0 (.take 1 (.take 2 (.take 3 (.take 4 (.take 5 (.take 6 (.take 7 (.alt 8 (.take 9 .done) .done))))))))) (Exists.intro [] (Exists.intro [] (And.intro rfl ?_)))
            refine guardI hF (fun hF => ?_)
            refine And.intro trivial ?_
            obtain ⟨q12_8, hq12_8, hF⟩ := bindE hF
            refine Or.inl (And.intro f44_in (callV0 (callI C44 (l4, c3_1, c3_2, l5, ((rd (Ty.z (.p .str (.p (.int .i64) (.int .i64)))) n.2 v62).1, ((rd (Ty.z (.p .str (.p (.int .i64) (.int .i64)))) n.2 v62).2).1, ((rd (Ty.z (.p .str (.p (.int .i64) (.int .i64)))) n.2 v62).2).2), (rd (Ty.z (.sl (.int .i64))) q18_7.2 v62), at_, ahead) q12_8 [(0, some 3), (1, some 0), (2, some 4), (3, some 5)] false C44_holds hq12_8 rfl rfl ?_)))
            refine (And.intro rfl (And.intro rfl (And.intro rfl (And.intro rfl (And.intro rfl (And.intro (fun h => nomatch h) (And.intro rfl (And.intro rfl (And.intro (And.intro rfl trivial) (And.intro (And.intro rfl (And.intro rfl (And.intro rfl (And.intro rfl trivial)))) ?_))))))))))
            refine Exists.intro (q12_8.1, at_, (IntKind.i64.wrap (v62 + (1 : Int))), q12_8.2.1, q12_8.2.2.1, q12_8.2.2.2.2, q12_8.2.2.2.1) (And.intro hF (Exists.intro [] (Exists.intro [] (Exists.intro [] (Exists.intro [] (Exists.intro [(0, some 0), (2, some 2), (3, some 3), (4, some 12), (5, some 11)] (And.intro rfl (And.intro rfl (And.intro rfl (And.intro rfl (And.intro rfl (And.intro rfl (And.intro rfl (And.intro (And.intro rfl (And.intro rfl (And.intro rfl trivial))) (And.intro rfl (And.intro rfl (And.intro rfl (And.intro rfl (And.intro rfl trivial)))))))))))))))))))
          · have hz := someE hF
            subst hz
            refine Exists.intro [] (Exists.intro [] (Exists.intro [] (Exists.intro [] (Exists.intro [(0, some 0), (2, some 3), (3, some 4), (4, some 5)] (And.intro rfl (And.intro rfl (And.intro rfl (And.intro (And.intro rfl (And.intro rfl trivial)) (And.intro rfl (And.intro rfl (And.intro rfl (And.intro rfl trivial))))))))))))
        · refine And.intro ?_ trivial
          refine Or.inl ?_
          refine Or.inl ?_
          refine condI hF (fun hF => ?_) (fun hF => ?_)
          · refine Or.inl ?_
            obtain ⟨q12_9, hq12_9, hF⟩ := bindE hF
            refine Or.inl (And.intro f45_in (callV0 (callI C45 (z11.2.2.2.1, r9.1) q12_9 [(0, some 0), (1, some 3)] false C45_holds hq12_9 rfl rfl ?_)))
            refine (And.intro rfl (And.intro (fun h => nomatch h) (And.intro rfl (And.intro rfl (And.intro (And.intro rfl trivial) (And.intro (And.intro rfl (And.intro rfl trivial)) ?_))))))
            refine Or.inl ?_
            refine Exists.intro (.take 0 (.take 1 (.take 2 (.take 3 (.take 4 (.take 5 (.take 6 .done))))))) (Exists.intro [] (Exists.intro [] (And.intro rfl ?_)))
            have hy := someE hF
            subst hy
            refine And.intro rfl (Exists.intro [] (Exists.intro [] (Exists.intro [] (Exists.intro [] (Exists.intro [(0, some 0), (2, none), (3, some 7)] (And.intro rfl (And.intro rfl (And.intro rfl (And.intro (And.intro rfl trivial) (And.intro rfl (And.intro rfl (And.intro rfl trivial))))))))))))
          · refine Or.inl ?_
            refine Exists.intro (.take 0 (.take 1 (.take 2 (.take 3 (.take 4 (.take 5 (.take 6 (.take 7 .done)))))))) (Exists.intro [] (Exists.intro [] (And.intro rfl ?_)))
            have hy := someE hF
            subst hy
            refine And.intro rfl (Exists.intro [] (Exists.intro [] (Exists.intro [] (Exists.intro [] (Exists.intro [(0, some 0), (2, some 4), (3, some 3)] (And.intro rfl (And.intro rfl (And.intro rfl (And.intro (And.intro rfl trivial) (And.intro rfl (And.intro rfl (And.intro rfl trivial))))))))))))
      · dsimp only [sumF] at hF
        refine And.intro ?_ trivial
        have hy := someE hF
        subst hy
        refine And.intro rfl (Exists.intro [] (Exists.intro [] (Exists.intro [] (Exists.intro [] (Exists.intro [(0, some 0), (2, none), (3, some 1)] (And.intro rfl (And.intro rfl (And.intro rfl (And.intro (And.intro rfl trivial) (And.intro rfl (And.intro rfl (And.intro rfl trivial))))))))))))
theorem C21_holds : C21.Holds Tryz.prog 21 := holds_of_vc tab_ok mixed (fn := Tryz.f21) (by kernel_rfl) rfl C21 (fun x y hF => C21_vc x.1 x.2.1 x.2.2.1 x.2.2.2 y hF)
theorem f21_in : ∃ fn, Tryz.prog.funcs[21]? = some fn ∧ fn.body.isSome = true ∧ (fn.name == "runtime.NumGoroutine") = false := ⟨Tryz.f21, by kernel_rfl, by kernel_rfl, by kernel_rfl⟩
end Go.Proofs
namespace Go.Proofs
open Go.AM
-- (*carousel/tape.Tape).At
def f23 (t_l : List (Int × Int × Int × Int × (List Int) × (List Int))) (n : Int) : Option (Int × Int × Int × Int × Bool × (List Int) × (List Int) × (List (Int × Int × Int × Int × (List Int) × (List Int)))) :=
  bindF (f48 t_l n) fun r1 =>
  bif (!r1.1) then
    some ((0 : Int), (0 : Int), (0 : Int), (0 : Int), false, [], [], r1.2)
  else
    guardF (0 ≤ n ∧ n < (List.length r1.2 : Int)) <|
    bindF (f49 ((((((rd (Ty.z (.p (.int .i64) (.p (.int .i64) (.p (.int .i64) (.p (.int .i64) (.p (.sl (.int .i64)) (.sl (.int .i64)))))))) r1.2 n).2).2).2).2).1, (((((rd (Ty.z (.p (.int .i64) (.p (.int .i64) (.p (.int .i64) (.p (.int .i64) (.p (.sl (.int .i64)) (.sl (.int .i64)))))))) r1.2 n).2).2).2).2).2)) fun r2 =>
    some ((rd (Ty.z (.p (.int .i64) (.p (.int .i64) (.p (.int .i64) (.p (.int .i64) (.p (.sl (.int .i64)) (.sl (.int .i64)))))))) r1.2 n).1, ((rd (Ty.z (.p (.int .i64) (.p (.int .i64) (.p (.int .i64) (.p (.int .i64) (.p (.sl (.int .i64)) (.sl (.int .i64)))))))) r1.2 n).2).1, (((rd (Ty.z (.p (.int .i64) (.p (.int .i64) (.p (.int .i64) (.p (.int .i64) (.p (.sl (.int .i64)) (.sl (.int .i64)))))))) r1.2 n).2).2).1, ((((rd (Ty.z (.p (.int .i64) (.p (.int .i64) (.p (.int .i64) (.p (.int .i64) (.p (.sl (.int .i64)) (.sl (.int .i64)))))))) r1.2 n).2).2).2).1, true, r2.1, r2.2, r1.2)
def C23 : Con where
  X := (List (Int × Int × Int × Int × (List Int) × (List Int))) × Int
  Y := Int × Int × Int × Int × Bool × (List Int) × (List Int) × (List (Int × Int × Int × Int × (List Int) × (List Int)))
  e := 2
  args x := [.raw false [(.ptr 0 0)], .dat (.int .i64) x.2]
  hin x := [(0, .cells [(.osl 1)]), (1, .arr 61 (.p (.int .i64) (.p (.int .i64) (.p (.int .i64) (.p (.int .i64) (.p (.sl (.int .i64)) (.sl (.int .i64))))))) x.1)]
  F x := f23 x.1 x.2
  ret y := [.raw true [(.d (.int .i64) y.1), (.d (.int .i64) y.2.1), (.d (.int .i64) y.2.2.1), (.d (.int .i64) y.2.2.2.1), (.osl 2), (.osl 3)], .dat .bool y.2.2.2.2.1]
  hout y := [(0, .cells [(.osl 1)]), (1, .arr 61 (.p (.int .i64) (.p (.int .i64) (.p (.int .i64) (.p (.int .i64) (.p (.sl (.int .i64)) (.sl (.int .i64))))))) y.2.2.2.2.2.2.2), (2, .arr 3 (.int .i64) y.2.2.2.2.2.1), (3, .arr 57 (.int .i64) y.2.2.2.2.2.2.1)]
  nout := 4
theorem C23_vc (t_l : List (Int × Int × Int × Int × (List Int) × (List Int))) (n : Int) (y : Int × Int × Int × Int × Bool × (List Int) × (List Int) × (List (Int × Int × Int × Int × (List Int) × (List Int)))) (hF : f23 t_l n = some y) : vc Tryz.prog tab Tryz.f23.ntmps 2 (match Tryz.f23.body with | some c => c | none => .skip) (retK tab C23 Tryz.f23.results.toList y) (C23.shIn (t_l, n)).st := by
  unfold f23 at hF
  refine Or.inl ?_
  refine Or.inl ?_
  refine Or.inl ?_
  obtain ⟨r1, hr1, hF⟩ := bindE hF
  refine Or.inl (And.intro f48_in (callV0 (callI C48 (t_l, n) r1 [(0, some 0), (1, some 1)] false C48_holds hr1 rfl rfl ?_)))
  refine (And.intro rfl (And.intro (fun h => nomatch h) (And.intro rfl (And.intro rfl (And.intro (And.intro rfl trivial) (And.intro (And.intro rfl (And.intro rfl trivial)) ?_))))))
  refine condI hF (fun hF => ?_) (fun hF => ?_)
  · refine Or.inl ?_
    refine Or.inl ?_
    have hy := someE hF
    subst hy
    refine And.intro rfl (Exists.intro [] (Exists.intro [] (Exists.intro [] (Exists.intro [] (Exists.intro [(0, some 0), (1, some 1), (2, none), (3, none)] (And.intro rfl (And.intro rfl (And.intro (And.intro rfl trivial) (And.intro rfl (And.intro rfl (And.intro rfl (And.intro rfl trivial))))))))))))
  · refine Or.inl ?_
    refine guardI hF (fun hF => ?_)
    refine Or.inl ?_
    refine Or.inl ?_
    obtain ⟨r2, hr2, hF⟩ := bindE hF
    refine Or.inl (And.intro f49_in (callV0 (callI C49 ((((((rd (Ty.z (.p (.int .i64) (.p (.int .i64) (.p (.int .i64) (.p (.int .i64) (.p (.sl (.int .i64)) (.sl (.int .i64)))))))) r1.2 n).2).2).2).2).1, (((((rd (Ty.z (.p (.int .i64) (.p (.int .i64) (.p (.int .i64) (.p (.int .i64) (.p (.sl (.int .i64)) (.sl (.int .i64)))))))) r1.2 n).2).2).2).2).2) r2 [] false C49_holds hr2 rfl rfl ?_)))
    refine (And.intro rfl (And.intro rfl (And.intro (fun h => nomatch h) (And.intro rfl (And.intro rfl (And.intro trivial (And.intro trivial ?_)))))))
    refine Or.inl ?_
    refine Or.inl ?_
    refine Or.inl ?_
    have hy := someE hF
    subst hy
    refine And.intro rfl (Exists.intro [] (Exists.intro [] (Exists.intro [] (Exists.intro [] (Exists.intro [(0, some 0), (1, some 1), (2, some 6), (3, some 7)] (And.intro rfl (And.intro rfl (And.intro (And.intro rfl trivial) (And.intro rfl (And.intro rfl (And.intro rfl (And.intro rfl trivial))))))))))))
theorem C23_holds : C23.Holds Tryz.prog 23 := holds_of_vc tab_ok mixed (fn := Tryz.f23) (by kernel_rfl) rfl C23 (fun x y hF => C23_vc x.1 x.2 y hF)
theorem f23_in : ∃ fn, Tryz.prog.funcs[23]? = some fn ∧ fn.body.isSome = true ∧ (fn.name == "runtime.NumGoroutine") = false := ⟨Tryz.f23, by kernel_rfl, by kernel_rfl, by kernel_rfl⟩
end Go.Proofs
namespace Go.Proofs
open Go.AM
-- (*carousel/tape.Tape).Value
def f27 (t_l : List (Int × Int × Int × Int × (List Int) × (List Int))) (n : Int) : Option (Bool × (List Int) × (List Int) × (List (Int × Int × Int × Int × (List Int) × (List Int)))) :=
  bindF (f23 t_l n) fun r1 =>
  some (r1.2.2.2.2.1, r1.2.2.2.2.2.1, r1.2.2.2.2.2.2.1, r1.2.2.2.2.2.2.2)
def C27 : Con where
  X := (List (Int × Int × Int × Int × (List Int) × (List Int))) × Int
  Y := Bool × (List Int) × (List Int) × (List (Int × Int × Int × Int × (List Int) × (List Int)))
  e := 2
  args x := [.raw false [(.ptr 0 0)], .dat (.int .i64) x.2]
  hin x := [(0, .cells [(.osl 1)]), (1, .arr 61 (.p (.int .i64) (.p (.int .i64) (.p (.int .i64) (.p (.int .i64) (.p (.sl (.int .i64)) (.sl (.int .i64))))))) x.1)]
  F x := f27 x.1 x.2
  ret y := [.raw true [(.osl 2), (.osl 3)], .dat .bool y.1]
  hout y := [(0, .cells [(.osl 1)]), (1, .arr 61 (.p (.int .i64) (.p (.int .i64) (.p (.int .i64) (.p (.int .i64) (.p (.sl (.int .i64)) (.sl (.int .i64))))))) y.2.2.2), (2, .arr 3 (.int .i64) y.2.1), (3, .arr 57 (.int .i64) y.2.2.1)]
  nout := 4
theorem C27_vc (t_l : List (Int × Int × Int × Int × (List Int) × (List Int))) (n : Int) (y : Bool × (List Int) × (List Int) × (List (Int × Int × Int × Int × (List Int) × (List Int)))) (hF : f27 t_l n = some y) : vc Tryz.prog tab Tryz.f27.ntmps 2 (match Tryz.f27.body with | some c => c | none => .skip) (retK tab C27 Tryz.f27.results.toList y) (C27.shIn (t_l, n)).st := by
  unfold f27 at hF
  refine Or.inl ?_
  refine Or.inl ?_
  obtain ⟨r1, hr1, hF⟩ := bindE hF
  refine Or.inl (And.intro f23_in (callV0 (callI C23 (t_l, n) r1 [(0, some 0), (1, some 1)] false C23_holds hr1 rfl rfl ?_)))
  refine (And.intro rfl (And.intro (fun h => nomatch h) (And.intro rfl (And.intro rfl (And.intro (And.intro rfl trivial) (And.intro (And.intro rfl (And.intro rfl trivial)) ?_))))))
  refine Or.inl ?_
  refine Or.inl ?_
  refine Or.inl ?_
  have hy := someE hF
  subst hy
  refine And.intro rfl (Exists.intro [] (Exists.intro [] (Exists.intro [] (Exists.intro [] (Exists.intro [(0, some 0), (1, some 1), (2, some 5), (3, some 6)] (And.intro rfl (And.intro rfl (And.intro (And.intro rfl trivial) (And.intro rfl (And.intro rfl (And.intro rfl (And.intro rfl trivial))))))))))))
theorem C27_holds : C27.Holds Tryz.prog 27 := holds_of_vc tab_ok mixed (fn := Tryz.f27) (by kernel_rfl) rfl C27 (fun x y hF => C27_vc x.1 x.2 y hF)
theorem f27_in : ∃ fn, Tryz.prog.funcs[27]? = some fn ∧ fn.body.isSome = true ∧ (fn.name == "runtime.NumGoroutine") = false := ⟨Tryz.f27, by kernel_rfl, by kernel_rfl, by kernel_rfl⟩
end Go.Proofs
namespace Go.Proofs
open Go.AM
-- strconv.Itoa
def f66 (i : Int) : Option ByteArray :=
  itoaF i
def C66 : Con where
  X := Int
  Y := ByteArray
  e := 0
  args x := [.dat (.int .i64) x]
  hin x := []
  F x := f66 x
  ret y := [.dat .str y]
  hout y := []
  nout := 0
theorem C66_holds : C66.Holds Tryz.prog 66 := itoa_holds Tryz.lays171
theorem f66_in : ∃ fn, Tryz.prog.funcs[66]? = some fn ∧ fn.body.isSome = true ∧ (fn.name == "runtime.NumGoroutine") = false := ⟨Tryz.f66, by kernel_rfl, by kernel_rfl, by kernel_rfl⟩
end Go.Proofs
namespace Go.Proofs
open Go.AM
-- carousel/model.numbers
def f37_l1 (l : List Int) (go : (ByteArray × Int) → Option ByteArray) (s : ByteArray) (v8 : Int) : Option ByteArray :=
  bif (decide (v8 < (List.length l : Int))) then
    guardF (0 ≤ v8 ∧ v8 < (List.length l : Int)) <|
    bindF (f66 (rd (0 : Int) l v8)) fun r4 =>
    guardF (((ByteArray.size (ByteArray.mk #[32]) + ByteArray.size r4 : Nat) : Int) ≤ 140737488355328) <|
    guardF (((ByteArray.size s + ByteArray.size ((ByteArray.mk #[32]) ++ r4) : Nat) : Int) ≤ 140737488355328) <|
    go ((s ++ ((ByteArray.mk #[32]) ++ r4)), (IntKind.i64.wrap (v8 + (1 : Int))))
  else
    some s
def f37 (l : List Int) : Option ByteArray :=
  bindF (loopF (fun go x => f37_l1 l go x.1 x.2) fuelN ((ByteArray.mk #[]), (0 : Int))) fun z3 =>
  some z3
def C37 : Con where
  X := List Int
  Y := ByteArray
  e := 0
  args x := [.dat (.sl (.int .i64)) x]
  hin x := []
  F x := f37 x
  ret y := [.dat .str y]
  hout y := []
  nout := 0
theorem C37_vc (l : List Int) (y : ByteArray) (hF : f37 l = some y) : vc Tryz.prog tab Tryz.f37.ntmps 0 (match Tryz.f37.body with | some c => c | none => .skip) (retK tab C37 Tryz.f37.results.toList y) (C37.shIn l).st := by
  unfold f37 at hF
  refine Or.inl ?_
  refine Or.inl ?_
  refine Or.inl ?_
  refine Or.inl ?_
  obtain ⟨z3, hz3, hF⟩ := bindE hF
  refine loopI (ByteArray × Int) ByteArray (fun x => ⟨[(3, .dat .str x.1), (6, .dat (.sl (.int .i64)) l), (7, .dat (.int .i64) (List.length l : Int)), (8, .dat (.int .i64) x.2)], [], 0⟩) (fun z => [(2, ⟨[(3, .dat .str z)], [], 0⟩)]) (loopF (fun go x => f37_l1 l go x.1 x.2)) fuelN ((ByteArray.mk #[]), (0 : Int)) z3 (And.intro hz3 (And.intro (Exists.intro [] (Exists.intro [] (Exists.intro [] (Exists.intro [] (Exists.intro [] (And.intro rfl (And.intro rfl (And.intro rfl (And.intro rfl (And.intro rfl (And.intro trivial trivial))))))))))) (And.intro (fun _ _ h => loopZ h) (And.intro (fun m => curI (fun s => fun v8 z hF => ?_)) ?_))))
  · have hF : f37_l1 l (loopF (fun go x => f37_l1 l go x.1 x.2) m) s v8 = some z := hF
    unfold f37_l1 at hF
    refine Or.inl ?_
    refine Or.inl ?_
    refine condI hF (fun hF => ?_) (fun hF => ?_)
    · refine Or.inl ?_
      refine Or.inl ?_
      refine guardI hF (fun hF => ?_)
      obtain ⟨r4, hr4, hF⟩ := bindE hF
      refine Or.inl (And.intro f66_in (callV0 (callI C66 (rd (0 : Int) l v8) r4 [] false C66_holds hr4 rfl rfl ?_)))
      refine (And.intro rfl (And.intro (fun h => nomatch h) (And.intro rfl (And.intro rfl (And.intro trivial (And.intro trivial ?_))))))
      refine guardI hF (fun hF => ?_)
      refine guardI hF (fun hF => ?_)
      refine Exists.intro ((s ++ ((ByteArray.mk #[32]) ++ r4)), (IntKind.i64.wrap (v8 + (1 : Int)))) (And.intro hF (Exists.intro [] (Exists.intro [] (Exists.intro [] (Exists.intro [] (Exists.intro [] (And.intro rfl (And.intro rfl (And.intro rfl (And.intro rfl (And.intro rfl (And.intro trivial trivial))))))))))))
    · have hz := someE hF
      subst hz
      refine Exists.intro [] (Exists.intro [] (Exists.intro [] (Exists.intro [] (Exists.intro [] (And.intro rfl (And.intro rfl (And.intro trivial trivial)))))))
  · refine And.intro ?_ trivial
    refine Or.inl ?_
    have hy := someE hF
    subst hy
    refine And.intro rfl (Exists.intro [] (Exists.intro [] (Exists.intro [] (Exists.intro [] (Exists.intro [] (And.intro rfl (And.intro rfl (And.intro trivial trivial))))))))
theorem C37_holds : C37.Holds Tryz.prog 37 := holds_of_vc tab_ok mixed (fn := Tryz.f37) (by kernel_rfl) rfl C37 (fun x y hF => C37_vc x y hF)
theorem f37_in : ∃ fn, Tryz.prog.funcs[37]? = some fn ∧ fn.body.isSome = true ∧ (fn.name == "runtime.NumGoroutine") = false := ⟨Tryz.f37, by kernel_rfl, by kernel_rfl, by kernel_rfl⟩
end Go.Proofs
namespace Go.Proofs
open Go.AM
-- carousel/model.Text
def f14_l1 (n : (List Int) × (List (ByteArray × Int × Int))) (go : (ByteArray × Int) → Option ByteArray) (s : ByteArray) (v22 : Int) : Option ByteArray :=
  bif (decide (v22 < (List.length n.2 : Int))) then
    guardF (0 ≤ v22 ∧ v22 < (List.length n.2 : Int)) <|
    guardF (((ByteArray.size (ByteArray.mk #[32]) + ByteArray.size ((rd (Ty.z (.p .str (.p (.int .i64) (.int .i64)))) n.2 v22).1) : Nat) : Int) ≤ 140737488355328) <|
    bindF (f38 ((rd (Ty.z (.p .str (.p (.int .i64) (.int .i64)))) n.2 v22).1)) fun q8_11 =>
    guardF (0 ≤ q8_11 ∧ q8_11 ≤ (List.length ([((rd (Ty.z (.p .str (.p (.int .i64) (.int .i64)))) n.2 v22).2).1, ((rd (Ty.z (.p .str (.p (.int .i64) (.int .i64)))) n.2 v22).2).2]) : Int)) <|
    bindF (f37 (List.take (Int.toNat q8_11) ([((rd (Ty.z (.p .str (.p (.int .i64) (.int .i64)))) n.2 v22).2).1, ((rd (Ty.z (.p .str (.p (.int .i64) (.int .i64)))) n.2 v22).2).2]))) fun q8_13 =>
    guardF (((ByteArray.size ((ByteArray.mk #[32]) ++ ((rd (Ty.z (.p .str (.p (.int .i64) (.int .i64)))) n.2 v22).1)) + ByteArray.size q8_13 : Nat) : Int) ≤ 140737488355328) <|
    guardF (((ByteArray.size s + ByteArray.size (((ByteArray.mk #[32]) ++ ((rd (Ty.z (.p .str (.p (.int .i64) (.int .i64)))) n.2 v22).1)) ++ q8_13) : Nat) : Int) ≤ 140737488355328) <|
    go ((s ++ (((ByteArray.mk #[32]) ++ ((rd (Ty.z (.p .str (.p (.int .i64) (.int .i64)))) n.2 v22).1)) ++ q8_13)), (IntKind.i64.wrap (v22 + (1 : Int))))
  else
    some s
def f14 (n : (List Int) × (List (ByteArray × Int × Int))) : Option ByteArray :=
  bindF (f11 (n.1, n.2)) fun q8_16 =>
  bif (q8_16.1 != (0 : Int)) then
    some (ByteArray.mk #[])
  else
    bindF (f37 n.1) fun r1 =>
    guardF (((ByteArray.size (ByteArray.mk #[105, 110]) + ByteArray.size r1 : Nat) : Int) ≤ 140737488355328) <|
    bindF (loopF (fun go x => f14_l1 n go x.1 x.2) fuelN (((ByteArray.mk #[105, 110]) ++ r1), (0 : Int))) fun z2 =>
    some z2
def C14 : Con where
  X := (List Int) × (List (ByteArray × Int × Int))
  Y := ByteArray
  e := 0
  args x := [.dat (.p (.sl (.int .i64)) (.sl (.p .str (.p (.int .i64) (.int .i64))))) x]
  hin x := []
  F x := f14 x
  ret y := [.dat .str y]
  hout y := []
  nout := 0
theorem C14_vc (n : (List Int) × (List (ByteArray × Int × Int))) (y : ByteArray) (hF : f14 n = some y) : vc Tryz.prog tab Tryz.f14.ntmps 0 (match Tryz.f14.body with | some c => c | none => .skip) (retK tab C14 Tryz.f14.results.toList y) (C14.shIn n).st := by
  unfold f14 at hF
  refine Or.inl ?_
  refine Or.inl ?_
  refine Or.inl ?_
  obtain ⟨q8_16, hq8_16, hF⟩ := bindE hF
  refine Or.inl (And.intro f11_in (callV0 (callI C11 (n.1, n.2) q8_16 [] false C11_holds hq8_16 rfl rfl ?_)))
  refine (And.intro rfl (And.intro rfl (And.intro (fun h => nomatch h) (And.intro rfl (And.intro rfl (And.intro trivial (And.intro trivial ?_)))))))
  refine Or.inl ?_
  refine condI hF (fun hF => ?_) (fun hF => ?_)
  · refine Or.inl ?_
    have hy := someE hF
    subst hy
    refine And.intro rfl (Exists.intro [] (Exists.intro [] (Exists.intro [] (Exists.intro [] (Exists.intro [] (And.intro rfl (And.intro rfl (And.intro trivial trivial))))))))
  · refine Or.inl ?_
    obtain ⟨r1, hr1, hF⟩ := bindE hF
    refine Or.inl (And.intro f37_in (callV0 (callI C37 n.1 r1 [] false C37_holds hr1 rfl rfl ?_)))
    refine (And.intro rfl (And.intro (fun h => nomatch h) (And.intro rfl (And.intro rfl (And.intro trivial (And.intro trivial ?_))))))
    refine guardI hF (fun hF => ?_)
    refine Or.inl ?_
    refine Or.inl ?_
    obtain ⟨z2, hz2, hF⟩ := bindE hF
    refine loopI (ByteArray × Int) ByteArray (fun x => ⟨[(5, .dat .str x.1), (20, .dat (.sl (.p .str (.p (.int .i64) (.int .i64)))) n.2), (21, .dat (.int .i64) (List.length n.2 : Int)), (22, .dat (.int .i64) x.2)], [], 0⟩) (fun z => [(2, ⟨[(5, .dat .str z)], [], 0⟩)]) (loopF (fun go x => f14_l1 n go x.1 x.2)) fuelN (((ByteArray.mk #[105, 110]) ++ r1), (0 : Int)) z2 (And.intro hz2 (And.intro (Exists.intro [] (Exists.intro [] (Exists.intro [] (Exists.intro [] (Exists.intro [] (And.intro rfl (And.intro rfl (And.intro rfl (And.intro rfl (And.intro rfl (And.intro trivial trivial))))))))))) (And.intro (fun _ _ h => loopZ h) (And.intro (fun m => curI (fun s => fun v22 z hF => ?_)) ?_))))
    · have hF : f14_l1 n (loopF (fun go x => f14_l1 n go x.1 x.2) m) s v22 = some z := hF
      unfold f14_l1 at hF
      refine Or.inl ?_
      refine Or.inl ?_
      refine condI hF (fun hF => ?_) (fun hF => ?_)
      · refine Or.inl ?_
        refine Or.inl ?_
        refine guardI hF (fun hF => ?_)
        refine Or.inl ?_
        obtain ⟨g8_0, hF⟩ := guardE hF
        obtain ⟨q8_11, hq8_11, hF⟩ := bindE hF
        obtain ⟨g8_2, hF⟩ := guardE hF
        obtain ⟨q8_13, hq8_13, hF⟩ := bindE hF
        obtain ⟨g8_4, hF⟩ := guardE hF
        obtain ⟨g8_5, hF⟩ := guardE hF
        refine Exists.intro (.take 0 (.take 1 (.take 2 (.take 3 (.take 4 (.take 5 (.take 6 (.take 7 (.take 9 (.take 10 (.alt 8 (.alt 11 (.alt 12 (.alt 13 (.take 14 (.take 15 (.take 16 .done))) .done) .done) .done) (.alt 11 (.alt 8 (.alt 12 (.alt 13 (.take 14 (.take 15 (.take 16 .done))) .done) .done) .done) .done)))))))))))) (Exists.intro [] (Exists.intro [] (And.intro rfl ?_)))
        refine And.intro g8_0 ?_
        refine And.intro (And.intro trivial ?_) ?_
        · refine Or.inl (And.intro f38_in (callV0 (callI C38 (rd (Ty.z (.p .str (.p (.int .i64) (.int .i64)))) n.2 v22).1 q8_11 [] false C38_holds hq8_11 rfl rfl ?_)))
          refine (And.intro rfl (And.intro (fun h => nomatch h) (And.intro rfl (And.intro rfl (And.intro trivial (And.intro trivial ?_))))))
          refine And.intro trivial ?_
          refine Or.inl ?_
          refine And.intro trivial ?_
          refine Or.inl ?_
          refine And.intro g8_2 ?_
          refine And.intro trivial ?_
          refine Or.inl (And.intro f37_in (callV0 (callI C37 (List.take (Int.toNat q8_11) ([((rd (Ty.z (.p .str (.p (.int .i64) (.int .i64)))) n.2 v22).2).1, ((rd (Ty.z (.p .str (.p (.int .i64) (.int .i64)))) n.2 v22).2).2])) q8_13 [] false C37_holds hq8_13 rfl rfl ?_)))
          refine (And.intro rfl (And.intro (fun h => nomatch h) (And.intro rfl (And.intro rfl (And.intro trivial (And.intro trivial ?_))))))
          refine And.intro g8_4 ?_
          refine And.intro g8_5 ?_
          refine Exists.intro ((s ++ (((ByteArray.mk #[32]) ++ ((rd (Ty.z (.p .str (.p (.int .i64) (.int .i64)))) n.2 v22).1)) ++ q8_13)), (IntKind.i64.wrap (v22 + (1 : Int)))) (And.intro hF (Exists.intro [] (Exists.intro [] (Exists.intro [] (Exists.intro [] (Exists.intro [] (And.intro rfl (And.intro rfl (And.intro rfl (And.intro rfl (And.intro rfl (And.intro trivial trivial))))))))))))
        · refine Or.inl ?_
          refine And.intro trivial ?_
          refine Or.inl (And.intro f38_in (callV0 (callI C38 (rd (Ty.z (.p .str (.p (.int .i64) (.int .i64)))) n.2 v22).1 q8_11 [] false C38_holds hq8_11 rfl rfl ?_)))
          refine (And.intro rfl (And.intro (fun h => nomatch h) (And.intro rfl (And.intro rfl (And.intro trivial (And.intro trivial ?_))))))
          refine And.intro trivial ?_
          refine Or.inl ?_
          refine And.intro g8_2 ?_
          refine And.intro trivial ?_
          refine Or.inl (And.intro f37_in (callV0 (callI C37 (List.take (Int.toNat q8_11) ([((rd (Ty.z (.p .str (.p (.int .i64) (.int .i64)))) n.2 v22).2).1, ((rd (Ty.z (.p .str (.p (.int .i64) (.int .i64)))) n.2 v22).2).2])) q8_13 [] false C37_holds hq8_13 rfl rfl ?_)))
          refine (And.intro rfl (And.intro (fun h => nomatch h) (And.intro rfl (And.intro rfl (And.intro trivial (And.intro trivial ?_))))))
          refine And.intro g8_4 ?_
          refine And.intro g8_5 ?_
          refine Exists.intro ((s ++ (((ByteArray.mk #[32]) ++ ((rd (Ty.z (.p .str (.p (.int .i64) (.int .i64)))) n.2 v22).1)) ++ q8_13)), (IntKind.i64.wrap (v22 + (1 : Int)))) (And.intro hF (Exists.intro [] (Exists.intro [] (Exists.intro [] (Exists.intro [] (Exists.intro [] (And.intro rfl (And.intro rfl (And.intro rfl (And.intro rfl (And.intro rfl (And.intro trivial trivial))))))))))))
      · have hz := someE hF
        subst hz
        refine Exists.intro [] (Exists.intro [] (Exists.intro [] (Exists.intro [] (Exists.intro [] (And.intro rfl (And.intro rfl (And.intro trivial trivial)))))))
    · refine And.intro ?_ trivial
      refine Or.inl ?_
      have hy := someE hF
      subst hy
      refine And.intro rfl (Exists.intro [] (Exists.intro [] (Exists.intro [] (Exists.intro [] (Exists.intro [] (And.intro rfl (And.intro rfl (And.intro trivial trivial))))))))
theorem C14_holds : C14.Holds Tryz.prog 14 := holds_of_vc tab_ok mixed (fn := Tryz.f14) (by kernel_rfl) rfl C14 (fun x y hF => C14_vc x y hF)
theorem f14_in : ∃ fn, Tryz.prog.funcs[14]? = some fn ∧ fn.body.isSome = true ∧ (fn.name == "runtime.NumGoroutine") = false := ⟨Tryz.f14, by kernel_rfl, by kernel_rfl, by kernel_rfl⟩
end Go.Proofs
namespace Go.Proofs
open Go.AM
-- carousel/carousellaw12.awake
def f9 : Option Bool :=
  bindF (f10 (ByteArray.mk #[105, 110, 32, 50, 32, 100, 101, 110, 115, 101, 32, 49])) fun r1 =>
  bindF (f12 (r1.1.1, r1.1.2)) fun r2 =>
  bindF (f20) fun r3 =>
  bindF (f21 ([]) (r1.1.1, r1.1.2) ([(4294967296 : Int), (8589934592 : Int), (5 : Int)]) ([(3 : Int), (4 : Int)])) fun r4 =>
  bindF (f27 r4.2.2.2 r4.1) fun r5 =>
  bif (r1.2 == (0 : Int)) then
    bif (r2.2 == (0 : Int)) then
      bif (r2.1 == (3 : Int)) then
        bif (r4.2.1 == (0 : Int)) then
          bif ((List.length r4.2.2.1 : Int) == (2 : Int)) then
            bif r5.1 then
              bif ((List.length r5.2.2.1 : Int) == (1 : Int)) then
                guardF (0 ≤ (0 : Int) ∧ (0 : Int) < (List.length r5.2.2.1 : Int)) <|
                bif ((rd (0 : Int) r5.2.2.1 (0 : Int)) == (16 : Int)) then
                  bindF (f14 (r1.1.1, r1.1.2)) fun r6 =>
                  some (ByteArray.toList r6 == ByteArray.toList (ByteArray.mk #[105, 110, 32, 50, 32, 100, 101, 110, 115, 101, 32, 49]))
                else
                  some false
              else
                some false
            else
              some false
          else
            some false
        else
          some false
      else
        some false
    else
      some false
  else
    some false
def C9 : Con where
  X := Unit
  Y := Bool
  e := 0
  args x := []
  hin x := []
  F x := f9
  ret y := [.dat .bool y]
  hout y := []
  nout := 0
theorem C9_vc (y : Bool) (hF : f9 = some y) : vc Tryz.prog tab Tryz.f9.ntmps 0 (match Tryz.f9.body with | some c => c | none => .skip) (retK tab C9 Tryz.f9.results.toList y) (C9.shIn ()).st := by
  unfold f9 at hF
  refine Or.inl ?_
  refine Or.inl ?_
  obtain ⟨r1, hr1, hF⟩ := bindE hF
  refine Or.inl (And.intro f10_in (callV0 (callI C10 (ByteArray.mk #[105, 110, 32, 50, 32, 100, 101, 110, 115, 101, 32, 49]) r1 [] false C10_holds hr1 rfl rfl ?_)))
  refine (And.intro rfl (And.intro (fun h => nomatch h) (And.intro rfl (And.intro rfl (And.intro trivial (And.intro trivial ?_))))))
  refine Or.inl ?_
  refine Or.inl ?_
  obtain ⟨r2, hr2, hF⟩ := bindE hF
  refine Or.inl (And.intro f12_in (callV0 (callI C12 (r1.1.1, r1.1.2) r2 [] false C12_holds hr2 rfl rfl ?_)))
  refine (And.intro rfl (And.intro rfl (And.intro (fun h => nomatch h) (And.intro rfl (And.intro rfl (And.intro trivial (And.intro trivial ?_)))))))
  refine Or.inl ?_
  obtain ⟨r3, hr3, hF⟩ := bindE hF
  refine Or.inl (And.intro f20_in (callV0 (callI C20 () r3 [] false C20_holds hr3 rfl rfl ?_)))
  refine (And.intro (fun h => nomatch h) (And.intro rfl (And.intro rfl (And.intro trivial (And.intro trivial ?_)))))
  refine Or.inl ?_
  refine Or.inl ?_
  refine Or.inl ?_
  obtain ⟨r4, hr4, hF⟩ := bindE hF
  refine Or.inl (And.intro f21_in (callV0 (callI C21 ([], (r1.1.1, r1.1.2), [(4294967296 : Int), (8589934592 : Int), (5 : Int)], [(3 : Int), (4 : Int)]) r4 [(0, some 1), (1, some 2)] false C21_holds hr4 rfl rfl ?_)))
  refine (And.intro rfl (And.intro rfl (And.intro rfl (And.intro rfl (And.intro (fun h => nomatch h) (And.intro rfl (And.intro rfl (And.intro (And.intro rfl trivial) (And.intro (And.intro rfl (And.intro rfl trivial)) ?_)))))))))
  refine Or.inl ?_
  obtain ⟨r5, hr5, hF⟩ := bindE hF
  refine Or.inl (And.intro f27_in (callV0 (callI C27 (r4.2.2.2, r4.1) r5 [(0, some 1), (1, some 8)] false C27_holds hr5 rfl rfl ?_)))
  refine (And.intro rfl (And.intro (fun h => nomatch h) (And.intro rfl (And.intro rfl (And.intro (And.intro rfl trivial) (And.intro (And.intro rfl (And.intro rfl trivial)) ?_))))))
  refine Or.inl ?_
  refine Or.inl ?_
  refine condI hF (fun hF => ?_) (fun hF => ?_)
  · refine gdYT ?_
    refine condT ?_
    refine condI hF (fun hF => ?_) (fun hF => ?_)
    · refine gdYT ?_
      refine condT ?_
      refine condI hF (fun hF => ?_) (fun hF => ?_)
      · refine gdYT ?_
        refine condT ?_
        refine condI hF (fun hF => ?_) (fun hF => ?_)
        · refine gdYT ?_
          refine gdYT ?_
          refine condT ?_
          refine condI hF (fun hF => ?_) (fun hF => ?_)
          · refine condT ?_
            refine condI hF (fun hF => ?_) (fun hF => ?_)
            · refine gdYT ?_
              refine gdYT ?_
              refine gdYT ?_
              refine condT ?_
              refine condI hF (fun hF => ?_) (fun hF => ?_)
              · refine gdYT ?_
                refine gdYT ?_
                refine guardI hF (fun hF => ?_)
                refine gdYT ?_
                refine gdYT ?_
                refine condT ?_
                refine condI hF (fun hF => ?_) (fun hF => ?_)
                · refine gdYT ?_
                  obtain ⟨r6, hr6, hF⟩ := bindE hF
                  refine Or.inl (And.intro f14_in (callV0 (callI C14 (r1.1.1, r1.1.2) r6 [] false C14_holds hr6 rfl rfl ?_)))
                  refine (And.intro rfl (And.intro rfl (And.intro (fun h => nomatch h) (And.intro rfl (And.intro rfl (And.intro trivial (And.intro trivial ?_)))))))
                  refine gdYT ?_
                  refine condT ?_
                  have hy := someE hF
                  subst hy
                  refine And.intro rfl (Exists.intro [] (Exists.intro [] (Exists.intro [] (Exists.intro [] (Exists.intro [] (And.intro rfl (And.intro rfl (And.intro trivial trivial))))))))
                · refine gdNT ?_
                  refine gdNT ?_
                  refine condF ?_
                  have hy := someE hF
                  subst hy
                  refine And.intro rfl (Exists.intro [] (Exists.intro [] (Exists.intro [] (Exists.intro [] (Exists.intro [] (And.intro rfl (And.intro rfl (And.intro trivial trivial))))))))
              · refine gdNT ?_
                refine gdNT ?_
                refine gdNT ?_
                refine gdNT ?_
                refine condF ?_
                refine gdNT ?_
                refine gdNT ?_
                refine gdNT ?_
                refine condF ?_
                have hy := someE hF
                subst hy
                refine And.intro rfl (Exists.intro [] (Exists.intro [] (Exists.intro [] (Exists.intro [] (Exists.intro [] (And.intro rfl (And.intro rfl (And.intro trivial trivial))))))))
            · refine gdNT ?_
              refine gdNT ?_
              refine gdNT ?_
              refine condF ?_
              refine gdNT ?_
              refine gdNT ?_
              refine gdNT ?_
              refine gdNT ?_
              refine gdNT ?_
              refine condF ?_
              refine gdNT ?_
              refine gdNT ?_
              refine gdNT ?_
              refine condF ?_
              have hy := someE hF
              subst hy
              refine And.intro rfl (Exists.intro [] (Exists.intro [] (Exists.intro [] (Exists.intro [] (Exists.intro [] (And.intro rfl (And.intro rfl (And.intro trivial trivial))))))))
          · refine condF ?_
            refine gdNT ?_
            refine gdNT ?_
            refine gdNT ?_
            refine gdNT ?_
            refine condF ?_
            refine gdNT ?_
            refine gdNT ?_
            refine gdNT ?_
            refine gdNT ?_
            refine gdNT ?_
            refine condF ?_
            refine gdNT ?_
            refine gdNT ?_
            refine gdNT ?_
            refine condF ?_
            have hy := someE hF
            subst hy
            refine And.intro rfl (Exists.intro [] (Exists.intro [] (Exists.intro [] (Exists.intro [] (Exists.intro [] (And.intro rfl (And.intro rfl (And.intro trivial trivial))))))))
        · refine gdNT ?_
          refine gdNT ?_
          refine condF ?_
          refine gdNT ?_
          refine condF ?_
          refine gdNT ?_
          refine gdNT ?_
          refine gdNT ?_
          refine gdNT ?_
          refine condF ?_
          refine gdNT ?_
          refine gdNT ?_
          refine gdNT ?_
          refine gdNT ?_
          refine gdNT ?_
          refine condF ?_
          refine gdNT ?_
          refine gdNT ?_
          refine gdNT ?_
          refine condF ?_
          have hy := someE hF
          subst hy
          refine And.intro rfl (Exists.intro [] (Exists.intro [] (Exists.intro [] (Exists.intro [] (Exists.intro [] (And.intro rfl (And.intro rfl (And.intro trivial trivial))))))))
      · refine gdNT ?_
        refine condF ?_
        refine gdNT ?_
        refine gdNT ?_
        refine gdNT ?_
        refine condF ?_
        refine gdNT ?_
        refine condF ?_
        refine gdNT ?_
        refine gdNT ?_
        refine gdNT ?_
        refine gdNT ?_
        refine condF ?_
        refine gdNT ?_
        refine gdNT ?_
        refine gdNT ?_
        refine gdNT ?_
        refine gdNT ?_
        refine condF ?_
        refine gdNT ?_
        refine gdNT ?_
        refine gdNT ?_
        refine condF ?_
        have hy := someE hF
        subst hy
        refine And.intro rfl (Exists.intro [] (Exists.intro [] (Exists.intro [] (Exists.intro [] (Exists.intro [] (And.intro rfl (And.intro rfl (And.intro trivial trivial))))))))
    · refine gdNT ?_
      refine condF ?_
      refine gdNT ?_
      refine gdNT ?_
      refine condF ?_
      refine gdNT ?_
      refine gdNT ?_
      refine gdNT ?_
      refine condF ?_
      refine gdNT ?_
      refine condF ?_
      refine gdNT ?_
      refine gdNT ?_
      refine gdNT ?_
      refine gdNT ?_
      refine condF ?_
      refine gdNT ?_
      refine gdNT ?_
      refine gdNT ?_
      refine gdNT ?_
      refine gdNT ?_
      refine condF ?_
      refine gdNT ?_
      refine gdNT ?_
      refine gdNT ?_
      refine condF ?_
      have hy := someE hF
      subst hy
      refine And.intro rfl (Exists.intro [] (Exists.intro [] (Exists.intro [] (Exists.intro [] (Exists.intro [] (And.intro rfl (And.intro rfl (And.intro trivial trivial))))))))
  · refine gdNT ?_
    refine condF ?_
    refine gdNT ?_
    refine gdNT ?_
    refine condF ?_
    refine gdNT ?_
    refine gdNT ?_
    refine condF ?_
    refine gdNT ?_
    refine gdNT ?_
    refine gdNT ?_
    refine condF ?_
    refine gdNT ?_
    refine condF ?_
    refine gdNT ?_
    refine gdNT ?_
    refine gdNT ?_
    refine gdNT ?_
    refine condF ?_
    refine gdNT ?_
    refine gdNT ?_
    refine gdNT ?_
    refine gdNT ?_
    refine gdNT ?_
    refine condF ?_
    refine gdNT ?_
    refine gdNT ?_
    refine gdNT ?_
    refine condF ?_
    have hy := someE hF
    subst hy
    refine And.intro rfl (Exists.intro [] (Exists.intro [] (Exists.intro [] (Exists.intro [] (Exists.intro [] (And.intro rfl (And.intro rfl (And.intro trivial trivial))))))))
theorem C9_holds : C9.Holds Tryz.prog 9 := holds_of_vc tab_ok mixed (fn := Tryz.f9) (by kernel_rfl) rfl C9 (fun x y hF => C9_vc y hF)
theorem f9_in : ∃ fn, Tryz.prog.funcs[9]? = some fn ∧ fn.body.isSome = true ∧ (fn.name == "runtime.NumGoroutine") = false := ⟨Tryz.f9, by kernel_rfl, by kernel_rfl, by kernel_rfl⟩
end Go.Proofs
