import Derived.Test.YtmkekohdmdjdlaaMatmOnesF1
set_option linter.unusedVariables false
set_option maxRecDepth 100000
set_option maxHeartbeats 8000000
namespace Go.Proofs
open Go.AM
-- carousel/carousellaw7.MatmRows
def f6_j1 (a : (List Int) × (List Int)) (b : (List Int) × (List Int)) : Option (Sum Unit Unit) :=
  bindF (f16 (a.1, a.2) (150 : Int)) fun r4 =>
  bif r4 then
    some (Sum.inr ())
  else
    bindF (f16 (b.1, b.2) (150 : Int)) fun r5 =>
    bif r5 then
      some (Sum.inr ())
    else
      some (Sum.inl ())
def f6_j2 (i : Int) (j : Int) (r6 : Int × (List Int) × (List Int)) : Option (Sum Unit Unit) :=
  bif (r6.1 != (0 : Int)) then
    some (Sum.inr ())
  else
    bif (decide (i < (0 : Int))) then
      some (Sum.inr ())
    else
      bif (decide (j < (0 : Int))) then
        some (Sum.inr ())
      else
        guardF (0 ≤ (0 : Int) ∧ (0 : Int) < (List.length r6.2.1 : Int)) <|
        bif (decide (i ≥ (rd (0 : Int) r6.2.1 (0 : Int)))) then
          some (Sum.inr ())
        else
          guardF (0 ≤ (1 : Int) ∧ (1 : Int) < (List.length r6.2.1 : Int)) <|
          bif (decide (j ≥ (rd (0 : Int) r6.2.1 (1 : Int)))) then
            some (Sum.inr ())
          else
            some (Sum.inl ())
def f6_l3 (a : (List Int) × (List Int)) (b : (List Int) × (List Int)) (i : Int) (j : Int) (go : (Int × (List Int) × (List Int)) → Option ((List Int) × (List Int))) (q_ : Int) (l3 : List Int) (l4 : List Int) : Option ((List Int) × (List Int)) :=
  bif (decide (q_ < (rd (0 : Int) a.1 (1 : Int)))) then
    guardF (0 ≤ (IntKind.i64.wrap ((IntKind.i64.wrap (i * (rd (0 : Int) a.1 (1 : Int)))) + q_)) ∧ (IntKind.i64.wrap ((IntKind.i64.wrap (i * (rd (0 : Int) a.1 (1 : Int)))) + q_)) < (List.length a.2 : Int)) <|
    guardF ((List.length l3 + List.length ([(rd (0 : Int) a.2 (IntKind.i64.wrap ((IntKind.i64.wrap (i * (rd (0 : Int) a.1 (1 : Int)))) + q_)))])) * 8 ≤ 140737488355328) <|
    guardF (0 ≤ (IntKind.i64.wrap ((IntKind.i64.wrap (q_ * (rd (0 : Int) b.1 (1 : Int)))) + j)) ∧ (IntKind.i64.wrap ((IntKind.i64.wrap (q_ * (rd (0 : Int) b.1 (1 : Int)))) + j)) < (List.length b.2 : Int)) <|
    guardF ((List.length l4 + List.length ([(rd (0 : Int) b.2 (IntKind.i64.wrap ((IntKind.i64.wrap (q_ * (rd (0 : Int) b.1 (1 : Int)))) + j)))])) * 8 ≤ 140737488355328) <|
    go ((IntKind.i64.wrap (q_ + (1 : Int))), (l3 ++ ([(rd (0 : Int) a.2 (IntKind.i64.wrap ((IntKind.i64.wrap (i * (rd (0 : Int) a.1 (1 : Int)))) + q_)))])), (l4 ++ ([(rd (0 : Int) b.2 (IntKind.i64.wrap ((IntKind.i64.wrap (q_ * (rd (0 : Int) b.1 (1 : Int)))) + j)))])))
  else
    some (l3, l4)
def f6 (a : (List Int) × (List Int)) (b : (List Int) × (List Int)) (i : Int) (j : Int) : Option Bool :=
  bindF (f13) fun q15_13 =>
  bif (!q15_13) then
    some false
  else
    bindF (f6_j1 a b) fun z3 =>
    sumF z3 (fun z3a =>
      bindF (f17 (a.1, a.2) (b.1, b.2)) fun r6 =>
      bindF (f6_j2 i j r6) fun z7 =>
      sumF z7 (fun z7a =>
        guardF (0 ≤ (1 : Int) ∧ (1 : Int) < (List.length a.1 : Int)) <|
        guardF (0 ≤ (1 : Int) ∧ (1 : Int) < (List.length b.1 : Int)) <|
        bindF (loopF (fun go x => f6_l3 a b i j go x.1 x.2.1 x.2.2) fuelN ((0 : Int), [], [])) fun z8 =>
        guardF (0 ≤ (IntKind.i64.wrap ((IntKind.i64.wrap (i * (rd (0 : Int) b.1 (1 : Int)))) + j)) ∧ (IntKind.i64.wrap ((IntKind.i64.wrap (i * (rd (0 : Int) b.1 (1 : Int)))) + j)) < (List.length r6.2.2 : Int)) <|
        bindF (f14 z8.1 z8.2) fun q15_11 =>
        some ((rd (0 : Int) r6.2.2 (IntKind.i64.wrap ((IntKind.i64.wrap (i * (rd (0 : Int) b.1 (1 : Int)))) + j))) == q15_11)) (fun z7b =>
        some true)) (fun z3b =>
      some true)
def C6 : Con where
  X := ((List Int) × (List Int)) × ((List Int) × (List Int)) × Int × Int
  Y := Bool
  e := 0
  args x := [.dat (.p (.sl (.int .i64)) (.sl (.int .i64))) x.1, .dat (.p (.sl (.int .i64)) (.sl (.int .i64))) x.2.1, .dat (.int .i64) x.2.2.1, .dat (.int .i64) x.2.2.2]
  hin x := []
  F x := f6 x.1 x.2.1 x.2.2.1 x.2.2.2
  ret y := [.dat .bool y]
  hout y := []
  nout := 0
theorem C6_vc (a : (List Int) × (List Int)) (b : (List Int) × (List Int)) (i : Int) (j : Int) (y : Bool) (hF : f6 a b i j = some y) : vc Try.prog tab Try.f6.ntmps 0 (match Try.f6.body with | some c => c | none => .skip) (retK tab C6 Try.f6.results.toList y) (C6.shIn (a, b, i, j)).st := by
  unfold f6 at hF
  refine Or.inl ?_
  refine Or.inl ?_
  refine Or.inl ?_
  obtain ⟨q15_13, hq15_13, hF⟩ := bindE hF
  refine Or.inl (And.intro f13_in (callV0 (callI C13 () q15_13 [] false C13_holds hq15_13 rfl rfl ?_)))
  refine (And.intro (fun h => nomatch h) (And.intro rfl (And.intro rfl (And.intro trivial (And.intro trivial ?_)))))
  refine condI hF (fun hF => ?_) (fun hF => ?_)
  · refine Or.inl ?_
    have hy := someE hF
    subst hy
    refine And.intro rfl (Exists.intro [] (Exists.intro [] (Exists.intro [] (Exists.intro [] (Exists.intro [] (And.intro rfl (And.intro rfl (And.intro trivial trivial))))))))
  · obtain ⟨z3, hz3, hF⟩ := bindE hF
    refine Or.inr ⟨Sum.elim (fun z3a => [(0, ⟨[(2, .dat (.int .i64) i), (3, .dat (.int .i64) j), (4, .raw false [(.ptr 0 0)]), (5, .raw false [(.ptr 1 0)])], [(0, .cells [(.d (.sl (.int .i64)) a.1), (.d (.sl (.int .i64)) a.2)]), (1, .cells [(.d (.sl (.int .i64)) b.1), (.d (.sl (.int .i64)) b.2)])], 2⟩)]) (fun z3b => [(1, ⟨[(8, .dat .bool true)], [], 0⟩)]) z3, ?_, ?_⟩
    · have hF := hz3
      clear hz3
      unfold f6_j1 at hF
      refine Or.inl ?_
      obtain ⟨r4, hr4, hF⟩ := bindE hF
      refine Or.inl (And.intro f16_in (callV0 (callI C16 ((a.1, a.2), (150 : Int)) r4 [] false C16_holds hr4 rfl rfl ?_)))
      refine (And.intro rfl (And.intro rfl (And.intro rfl (And.intro (fun h => nomatch h) (And.intro rfl (And.intro rfl (And.intro trivial (And.intro trivial ?_))))))))
      refine condN hF (fun hF => ?_) (fun hF => ?_)
      · refine gdYF ?_
        obtain ⟨r5, hr5, hF⟩ := bindE hF
        refine Or.inl (And.intro f16_in (callV0 (callI C16 ((b.1, b.2), (150 : Int)) r5 [] false C16_holds hr5 rfl rfl ?_)))
        refine (And.intro rfl (And.intro rfl (And.intro rfl (And.intro (fun h => nomatch h) (And.intro rfl (And.intro rfl (And.intro trivial (And.intro trivial ?_))))))))
        refine condF ?_
        refine condI hF (fun hF => ?_) (fun hF => ?_)
        · refine Or.inl ?_
          have hz := someE hF
          subst hz
          refine Exists.intro [] (Exists.intro [] (Exists.intro [] (Exists.intro [] (Exists.intro [] (And.intro rfl (And.intro rfl (And.intro trivial trivial)))))))
        · have hz := someE hF
          subst hz
          refine Exists.intro [] (Exists.intro [] (Exists.intro [] (Exists.intro [] (Exists.intro [(0, some 0), (1, some 1)] (And.intro rfl (And.intro rfl (And.intro rfl (And.intro (And.intro rfl (And.intro rfl trivial)) (And.intro rfl (And.intro rfl trivial))))))))))
      · refine gdNF ?_
        refine condT ?_
        refine condT ?_
        refine Or.inl ?_
        have hz := someE hF
        subst hz
        refine Exists.intro [] (Exists.intro [] (Exists.intro [] (Exists.intro [] (Exists.intro [] (And.intro rfl (And.intro rfl (And.intro trivial trivial)))))))
    · rcases z3 with z3a | z3b
      · dsimp only [sumF] at hF
        refine And.intro ?_ trivial
        refine Or.inl ?_
        obtain ⟨r6, hr6, hF⟩ := bindE hF
        refine Or.inl (And.intro f17_in (callV0 (callI C17 ((a.1, a.2), (b.1, b.2)) r6 [] false C17_holds hr6 rfl rfl ?_)))
        refine (And.intro rfl (And.intro rfl (And.intro rfl (And.intro rfl (And.intro (fun h => nomatch h) (And.intro rfl (And.intro rfl (And.intro trivial (And.intro trivial ?_)))))))))
        refine Or.inl ?_
        obtain ⟨z7, hz7, hF⟩ := bindE hF
        refine Or.inr ⟨Sum.elim (fun z7a => [(0, ⟨[(2, .dat (.int .i64) i), (3, .dat (.int .i64) j), (4, .raw false [(.ptr 0 0)]), (5, .raw false [(.ptr 1 0)]), (9, .raw false [(.ptr 2 0)])], [(0, .cells [(.d (.sl (.int .i64)) a.1), (.d (.sl (.int .i64)) a.2)]), (1, .cells [(.d (.sl (.int .i64)) b.1), (.d (.sl (.int .i64)) b.2)]), (2, .cells [(.osl 3), (.osl 4)]), (3, .arr 3 (.int .i64) r6.2.1), (4, .arr 24 (.int .i64) r6.2.2)], 5⟩)]) (fun z7b => [(1, ⟨[(8, .dat .bool true)], [], 0⟩)]) z7, ?_, ?_⟩
        · have hF := hz7
          clear hz7
          unfold f6_j2 at hF
          refine Or.inl ?_
          refine condN hF (fun hF => ?_) (fun hF => ?_)
          · refine gdYF ?_
            refine condF ?_
            refine condN hF (fun hF => ?_) (fun hF => ?_)
            · refine gdYF ?_
              refine condF ?_
              refine condN hF (fun hF => ?_) (fun hF => ?_)
              · refine gdYF ?_
                refine gdYF ?_
                refine gdYF ?_
                refine guardI hF (fun hF => ?_)
                refine gdYF ?_
                refine gdYF ?_
                refine condF ?_
                refine condN hF (fun hF => ?_) (fun hF => ?_)
                · refine gdYF ?_
                  refine gdYF ?_
                  refine gdYF ?_
                  refine guardI hF (fun hF => ?_)
                  refine gdYF ?_
                  refine gdYF ?_
                  refine condF ?_
                  refine condI hF (fun hF => ?_) (fun hF => ?_)
                  · refine Or.inl ?_
                    have hz := someE hF
                    subst hz
                    refine Exists.intro [] (Exists.intro [] (Exists.intro [] (Exists.intro [] (Exists.intro [] (And.intro rfl (And.intro rfl (And.intro trivial trivial)))))))
                  · have hz := someE hF
                    subst hz
                    refine Exists.intro [] (Exists.intro [] (Exists.intro [] (Exists.intro [] (Exists.intro [(0, some 0), (1, some 1), (2, some 4), (3, some 2), (4, some 3)] (And.intro rfl (And.intro rfl (And.intro rfl (And.intro (And.intro rfl (And.intro rfl (And.intro rfl trivial))) (And.intro rfl (And.intro rfl (And.intro rfl (And.intro rfl (And.intro rfl trivial)))))))))))))
                · refine gdNF ?_
                  refine gdNF ?_
                  refine gdNF ?_
                  refine gdNF ?_
                  refine gdNF ?_
                  refine condT ?_
                  refine condT ?_
                  refine Or.inl ?_
                  have hz := someE hF
                  subst hz
                  refine Exists.intro [] (Exists.intro [] (Exists.intro [] (Exists.intro [] (Exists.intro [] (And.intro rfl (And.intro rfl (And.intro trivial trivial)))))))
              · refine gdNF ?_
                refine gdNF ?_
                refine gdNF ?_
                refine gdNF ?_
                refine gdNF ?_
                refine condT ?_
                refine gdNF ?_
                refine gdNF ?_
                refine gdNF ?_
                refine gdNF ?_
                refine gdNF ?_
                refine gdNF ?_
                refine condT ?_
                refine condT ?_
                refine Or.inl ?_
                have hz := someE hF
                subst hz
                refine Exists.intro [] (Exists.intro [] (Exists.intro [] (Exists.intro [] (Exists.intro [] (And.intro rfl (And.intro rfl (And.intro trivial trivial)))))))
            · refine gdNF ?_
              refine condT ?_
              refine gdNF ?_
              refine gdNF ?_
              refine gdNF ?_
              refine gdNF ?_
              refine gdNF ?_
              refine gdNF ?_
              refine condT ?_
              refine gdNF ?_
              refine gdNF ?_
              refine gdNF ?_
              refine gdNF ?_
              refine gdNF ?_
              refine gdNF ?_
              refine condT ?_
              refine condT ?_
              refine Or.inl ?_
              have hz := someE hF
              subst hz
              refine Exists.intro [] (Exists.intro [] (Exists.intro [] (Exists.intro [] (Exists.intro [] (And.intro rfl (And.intro rfl (And.intro trivial trivial)))))))
          · refine gdNF ?_
            refine condT ?_
            refine gdNF ?_
            refine gdNF ?_
            refine condT ?_
            refine gdNF ?_
            refine gdNF ?_
            refine gdNF ?_
            refine gdNF ?_
            refine gdNF ?_
            refine gdNF ?_
            refine condT ?_
            refine gdNF ?_
            refine gdNF ?_
            refine gdNF ?_
            refine gdNF ?_
            refine gdNF ?_
            refine gdNF ?_
            refine condT ?_
            refine condT ?_
            refine Or.inl ?_
            have hz := someE hF
            subst hz
            refine Exists.intro [] (Exists.intro [] (Exists.intro [] (Exists.intro [] (Exists.intro [] (And.intro rfl (And.intro rfl (And.intro trivial trivial)))))))
        · rcases z7 with z7a | z7b
          · dsimp only [sumF] at hF
            refine And.intro ?_ trivial
            refine Or.inl ?_
            refine Exists.intro (.take 0 (.take 1 (.take 2 (.take 3 (.take 4 (.take 5 (.take 6 (.take 7 (.take 8 (.take 9 .done)))))))))) (Exists.intro [] (Exists.intro [] (And.intro rfl ?_)))
            refine guardI hF (fun hF => ?_)
            refine guardI hF (fun hF => ?_)
            refine Or.inl ?_
            refine Or.inl ?_
            refine Or.inl ?_
            obtain ⟨z8, hz8, hF⟩ := bindE hF
            refine loopI (Int × (List Int) × (List Int)) ((List Int) × (List Int)) (fun x => ⟨[(2, .dat (.int .i64) i), (3, .dat (.int .i64) j), (4, .raw false [(.ptr 0 0)]), (5, .raw false [(.ptr 1 0)]), (9, .raw false [(.ptr 2 0)]), (11, .dat (.int .i64) (rd (0 : Int) a.1 (1 : Int))), (12, .dat (.int .i64) (rd (0 : Int) b.1 (1 : Int))), (13, .raw false [(.osl 3)]), (14, .raw false [(.osl 4)]), (15, .dat (.int .i64) x.1)], [(0, .cells [(.d (.sl (.int .i64)) a.1), (.d (.sl (.int .i64)) a.2)]), (1, .cells [(.d (.sl (.int .i64)) b.1), (.d (.sl (.int .i64)) b.2)]), (2, .cells [(.osl 5), (.osl 6)]), (3, .arr 24 (.int .i64) x.2.1), (4, .arr 24 (.int .i64) x.2.2), (5, .arr 3 (.int .i64) r6.2.1), (6, .arr 24 (.int .i64) r6.2.2)], 7⟩) (fun z => [(2, ⟨[(2, .dat (.int .i64) i), (3, .dat (.int .i64) j), (9, .raw false [(.ptr 0 0)]), (12, .dat (.int .i64) (rd (0 : Int) b.1 (1 : Int))), (13, .raw false [(.osl 1)]), (14, .raw false [(.osl 2)])], [(0, .cells [(.osl 3), (.osl 4)]), (1, .arr 24 (.int .i64) z.1), (2, .arr 24 (.int .i64) z.2), (3, .arr 3 (.int .i64) r6.2.1), (4, .arr 24 (.int .i64) r6.2.2)], 5⟩)]) (loopF (fun go x => f6_l3 a b i j go x.1 x.2.1 x.2.2)) fuelN ((0 : Int), [], []) z8 (And.intro hz8 (And.intro (Exists.intro [] (Exists.intro [] (Exists.intro [] (Exists.intro [] (Exists.intro [(0, some 0), (1, some 1), (2, some 2), (3, none), (4, none), (5, some 3), (6, some 4)] (And.intro rfl (And.intro rfl (And.intro rfl (And.intro rfl (And.intro rfl (And.intro rfl (And.intro (And.intro rfl (And.intro rfl (And.intro rfl (And.intro rfl (And.intro rfl trivial))))) (And.intro rfl (And.intro rfl (And.intro rfl (And.intro rfl (And.intro rfl (And.intro rfl (And.intro rfl trivial))))))))))))))))))) (And.intro (fun _ _ h => loopZ h) (And.intro (fun m => curI (fun q_ => curI (fun l3 => fun l4 z hF => ?_))) ?_))))
            · have hF : f6_l3 a b i j (loopF (fun go x => f6_l3 a b i j go x.1 x.2.1 x.2.2) m) q_ l3 l4 = some z := hF
              unfold f6_l3 at hF
              refine Or.inl ?_
              refine Or.inl ?_
              refine condI hF (fun hF => ?_) (fun hF => ?_)
              · refine Or.inl ?_
                refine Or.inl ?_
                refine guardI hF (fun hF => ?_)
                refine Or.inl ?_
                refine Or.inl ?_
                refine guardI hF (fun hF => ?_)
                refine guardI hF (fun hF => ?_)
                refine Or.inl ?_
                refine Or.inl ?_
                refine guardI hF (fun hF => ?_)
                refine Exists.intro ((IntKind.i64.wrap (q_ + (1 : Int))), (l3 ++ ([(rd (0 : Int) a.2 (IntKind.i64.wrap ((IntKind.i64.wrap (i * (rd (0 : Int) a.1 (1 : Int)))) + q_)))])), (l4 ++ ([(rd (0 : Int) b.2 (IntKind.i64.wrap ((IntKind.i64.wrap (q_ * (rd (0 : Int) b.1 (1 : Int)))) + j)))]))) (And.intro hF (Exists.intro [] (Exists.intro [] (Exists.intro [] (Exists.intro [] (Exists.intro [(0, some 0), (1, some 1), (2, some 2), (3, some 8), (4, some 10), (5, some 5), (6, some 6)] (And.intro rfl (And.intro rfl (And.intro rfl (And.intro rfl (And.intro rfl (And.intro rfl (And.intro (And.intro rfl (And.intro rfl (And.intro rfl (And.intro rfl (And.intro rfl trivial))))) (And.intro rfl (And.intro rfl (And.intro rfl (And.intro rfl (And.intro rfl (And.intro rfl (And.intro rfl trivial))))))))))))))))))))
              · have hz := someE hF
                subst hz
                refine Exists.intro [] (Exists.intro [] (Exists.intro [] (Exists.intro [] (Exists.intro [(0, some 2), (1, some 3), (2, some 4), (3, some 5), (4, some 6)] (And.intro rfl (And.intro rfl (And.intro rfl (And.intro rfl (And.intro (And.intro rfl (And.intro rfl (And.intro rfl trivial))) (And.intro rfl (And.intro rfl (And.intro rfl (And.intro rfl (And.intro rfl trivial))))))))))))))
            · refine And.intro ?_ trivial
              refine Or.inl ?_
              refine Exists.intro (.take 0 (.take 1 (.take 2 (.take 3 (.take 4 (.take 5 (.take 6 (.take 7 (.take 8 (.take 9 (.take 10 (.alt 11 (.take 12 (.take 13 .done)) .done)))))))))))) (Exists.intro [] (Exists.intro [] (And.intro rfl ?_)))
              refine guardI hF (fun hF => ?_)
              refine And.intro trivial ?_
              obtain ⟨q15_11, hq15_11, hF⟩ := bindE hF
              refine Or.inl (And.intro f14_in (callV0 (callI C14 (z8.1, z8.2) q15_11 [] true C14_holds hq15_11 rfl rfl ?_)))
              refine (And.intro rfl (And.intro rfl (And.intro (fun _ => rfl) (And.intro rfl (And.intro rfl (And.intro trivial (And.intro trivial ?_)))))))
              have hy := someE hF
              subst hy
              refine And.intro rfl (Exists.intro [] (Exists.intro [] (Exists.intro [] (Exists.intro [] (Exists.intro [] (And.intro rfl (And.intro rfl (And.intro trivial trivial))))))))
          · dsimp only [sumF] at hF
            refine And.intro ?_ trivial
            have hy := someE hF
            subst hy
            refine And.intro rfl (Exists.intro [] (Exists.intro [] (Exists.intro [] (Exists.intro [] (Exists.intro [] (And.intro rfl (And.intro rfl (And.intro trivial trivial))))))))
      · dsimp only [sumF] at hF
        refine And.intro ?_ trivial
        have hy := someE hF
        subst hy
        refine And.intro rfl (Exists.intro [] (Exists.intro [] (Exists.intro [] (Exists.intro [] (Exists.intro [] (And.intro rfl (And.intro rfl (And.intro trivial trivial))))))))
theorem C6_holds : C6.Holds Try.prog 6 := holds_of_vc tab_ok mixed (fn := Try.f6) (by kernel_rfl) rfl C6 (fun x y hF => C6_vc x.1 x.2.1 x.2.2.1 x.2.2.2 y hF)
theorem f6_in : ∃ fn, Try.prog.funcs[6]? = some fn ∧ fn.body.isSome = true ∧ (fn.name == "runtime.NumGoroutine") = false := ⟨Try.f6, by kernel_rfl, by kernel_rfl, by kernel_rfl⟩
end Go.Proofs
