import Derived.Test.YtdnlicefpmiljaaGreatDoorModelCountsF6
set_option linter.unusedVariables false
set_option maxRecDepth 100000
set_option maxHeartbeats 8000000
namespace Go.Proofs
open Go.AM
-- carousel/carousellaw12.ModelCounts
def f8_j1 (in_ : Int) (l : List Int) : Option (Sum Unit Unit) :=
  bif (decide (in_ < (1 : Int))) then
    some (Sum.inr ())
  else
    bif (decide (in_ > (1024 : Int))) then
      some (Sum.inr ())
    else
      bif (decide ((List.length l : Int) > (16 : Int))) then
        some (Sum.inr ())
      else
        some (Sum.inl ())
def f8_j7 (l : List Int) (i : Int) : Option (Sum Unit Unit) :=
  guardF (0 ≤ i ∧ i < (List.length l : Int)) <|
  bif (decide ((rd (0 : Int) l i) < (1 : Int))) then
    some (Sum.inr ())
  else
    guardF (0 ≤ i ∧ i < (List.length l : Int)) <|
    bif (decide ((rd (0 : Int) l i) > (256 : Int))) then
      some (Sum.inr ())
    else
      some (Sum.inl ())
def f8_j8 (l : List Int) (great : Bool) (from_ : Int) (i : Int) : Option Bool :=
  bif great then
    some true
  else
    guardF (0 ≤ i ∧ i < (List.length l : Int)) <|
    some (decide ((IntKind.i64.wrap (from_ * (rd (0 : Int) l i))) > (4096 : Int)))
def f8_l6 (l : List Int) (go : (Int × Bool × Int × Int × (List (ByteArray × Int × Int))) → Option (Sum Unit (Int × Bool × (List (ByteArray × Int × Int))))) (all : Int) (great : Bool) (from_ : Int) (i : Int) (l2 : List (ByteArray × Int × Int)) : Option (Sum Unit (Int × Bool × (List (ByteArray × Int × Int)))) :=
  bif (decide (i < (List.length l : Int))) then
    bindF (f8_j7 l i) fun z8 =>
    sumF z8 (fun z8a =>
      guardF (0 ≤ i ∧ i < (List.length l : Int)) <|
      guardF ((List.length l2 + List.length ([((ByteArray.mk #[100, 101, 110, 115, 101]), (rd (0 : Int) l i), (0 : Int))])) * 32 ≤ 140737488355328) <|
      bindF (f8_j8 l great from_ i) fun z9 =>
      guardF (0 ≤ i ∧ i < (List.length l : Int)) <|
      guardF (0 ≤ i ∧ i < (List.length l : Int)) <|
      guardF (0 ≤ i ∧ i < (List.length l : Int)) <|
      go ((IntKind.i64.wrap ((IntKind.i64.wrap (all + (IntKind.i64.wrap (from_ * (rd (0 : Int) l i))))) + (rd (0 : Int) l i))), z9, (rd (0 : Int) l i), (IntKind.i64.wrap (i + (1 : Int))), (l2 ++ ([((ByteArray.mk #[100, 101, 110, 115, 101]), (rd (0 : Int) l i), (0 : Int))])))) (fun z8b =>
      some (Sum.inl ()))
  else
    some (Sum.inr (all, great, l2))
def f8_j11 (z7b : Int × Bool × (List (ByteArray × Int × Int))) : Option Bool :=
  bif z7b.2.1 then
    some true
  else
    some (decide (z7b.1 > (4096 : Int)))
def f8_j10 (z7b : Int × Bool × (List (ByteArray × Int × Int))) (q14_13 : Int × Int) : Option (Sum Unit Bool) :=
  bindF (f8_j11 z7b) fun z12 =>
  bif z12 then
    bif (q14_13.2 == (2 : Int)) then
      some (Sum.inr (q14_13.1 == (0 : Int)))
    else
      some (Sum.inr false)
  else
    some (Sum.inl ())
def f8 (in_ : Int) (l : List Int) : Option Bool :=
  bindF (f9) fun r1 =>
  bif (!r1) then
    some false
  else
    bindF (f8_j1 in_ l) fun z2 =>
    sumF z2 (fun z2a =>
      bindF (loopF (fun go x => f8_l6 l go x.1 x.2.1 x.2.2.1 x.2.2.2.1 x.2.2.2.2) fuelN ((0 : Int), false, in_, (0 : Int), [])) fun z7 =>
      sumF z7 (fun z7a =>
        some true) (fun z7b =>
        bindF (f12 ([in_], z7b.2.2)) fun q14_13 =>
        bindF (f8_j10 z7b q14_13) fun z11 =>
        sumF z11 (fun z11a =>
          bif (q14_13.2 == (0 : Int)) then
            some (q14_13.1 == z7b.1)
          else
            some false) (fun z11b =>
          some z11b))) (fun z2b =>
      some true)
def C8 : Con where
  X := Int × (List Int)
  Y := Bool
  e := 0
  args x := [.dat (.int .i64) x.1, .dat (.sl (.int .i64)) x.2]
  hin x := []
  F x := f8 x.1 x.2
  ret y := [.dat .bool y]
  hout y := []
  nout := 0
theorem C8_vc (in_ : Int) (l : List Int) (y : Bool) (hF : f8 in_ l = some y) : vc Tryz.prog tab Tryz.f8.ntmps 0 (match Tryz.f8.body with | some c => c | none => .skip) (retK tab C8 Tryz.f8.results.toList y) (C8.shIn (in_, l)).st := by
  unfold f8 at hF
  refine Or.inl ?_
  refine Or.inl ?_
  refine Or.inl ?_
  obtain ⟨r1, hr1, hF⟩ := bindE hF
  refine Or.inl (And.intro f9_in (callV0 (callI C9 () r1 [] false C9_holds hr1 rfl rfl ?_)))
  refine (And.intro (fun h => nomatch h) (And.intro rfl (And.intro rfl (And.intro trivial (And.intro trivial ?_)))))
  refine condI hF (fun hF => ?_) (fun hF => ?_)
  · refine Or.inl ?_
    have hy := someE hF
    subst hy
    refine And.intro rfl (Exists.intro [] (Exists.intro [] (Exists.intro [] (Exists.intro [] (Exists.intro [] (And.intro rfl (And.intro rfl (And.intro trivial trivial))))))))
  · obtain ⟨z2, hz2, hF⟩ := bindE hF
    refine Or.inr ⟨Sum.elim (fun z2a => [(0, ⟨[(0, .dat (.int .i64) in_), (1, .dat (.sl (.int .i64)) l)], [], 0⟩)]) (fun z2b => [(1, ⟨[(4, .dat .bool true)], [], 0⟩)]) z2, ?_, ?_⟩
    · have hF := hz2
      clear hz2
      unfold f8_j1 at hF
      refine Or.inl ?_
      refine condN hF (fun hF => ?_) (fun hF => ?_)
      · refine gdYF ?_
        refine condF ?_
        refine condN hF (fun hF => ?_) (fun hF => ?_)
        · refine gdYF ?_
          refine gdYF ?_
          refine condF ?_
          refine condI hF (fun hF => ?_) (fun hF => ?_)
          · refine Or.inl ?_
            have hz := someE hF
            subst hz
            refine Exists.intro [] (Exists.intro [] (Exists.intro [] (Exists.intro [] (Exists.intro [] (And.intro rfl (And.intro rfl (And.intro trivial trivial)))))))
          · have hz := someE hF
            subst hz
            refine Exists.intro [] (Exists.intro [] (Exists.intro [] (Exists.intro [] (Exists.intro [] (And.intro rfl (And.intro rfl (And.intro rfl (And.intro trivial trivial))))))))
        · refine gdNF ?_
          refine gdNF ?_
          refine condT ?_
          refine condT ?_
          refine Or.inl ?_
          have hz := someE hF
          subst hz
          refine Exists.intro [] (Exists.intro [] (Exists.intro [] (Exists.intro [] (Exists.intro [] (And.intro rfl (And.intro rfl (And.intro trivial trivial)))))))
      · refine gdNF ?_
        refine condT ?_
        refine gdNF ?_
        refine gdNF ?_
        refine gdNF ?_
        refine condT ?_
        refine condT ?_
        refine Or.inl ?_
        have hz := someE hF
        subst hz
        refine Exists.intro [] (Exists.intro [] (Exists.intro [] (Exists.intro [] (Exists.intro [] (And.intro rfl (And.intro rfl (And.intro trivial trivial)))))))
    · rcases z2 with z2a | z2b
      · dsimp only [sumF] at hF
        refine And.intro ?_ trivial
        refine Or.inl ?_
        refine Or.inl ?_
        refine Or.inl ?_
        refine Or.inl ?_
        refine Or.inl ?_
        refine Or.inl ?_
        obtain ⟨z7, hz7, hF⟩ := bindE hF
        refine loopI (Int × Bool × Int × Int × (List (ByteArray × Int × Int))) (Sum Unit (Int × Bool × (List (ByteArray × Int × Int)))) (fun x => ⟨[(1, .dat (.sl (.int .i64)) l), (5, .raw false [(.ptr 0 0)]), (6, .dat (.int .i64) x.1), (7, .dat .bool x.2.1), (8, .dat (.int .i64) x.2.2.1), (9, .dat (.int .i64) x.2.2.2.1)], [(0, .cells [(.osl 1), (.osl 2)]), (1, .arr 3 (.int .i64) ([in_])), (2, .arr 70 (.p .str (.p (.int .i64) (.int .i64))) x.2.2.2.2)], 3⟩) (fun z => Sum.elim (fun za => [(1, ⟨[(4, .dat .bool true)], [], 0⟩)]) (fun zb => [(2, ⟨[(5, .raw false [(.ptr 0 0)]), (6, .dat (.int .i64) zb.1), (7, .dat .bool zb.2.1)], [(0, .cells [(.osl 1), (.osl 2)]), (1, .arr 3 (.int .i64) ([in_])), (2, .arr 70 (.p .str (.p (.int .i64) (.int .i64))) zb.2.2)], 3⟩)]) z) (loopF (fun go x => f8_l6 l go x.1 x.2.1 x.2.2.1 x.2.2.2.1 x.2.2.2.2)) fuelN ((0 : Int), false, in_, (0 : Int), []) z7 (And.intro hz7 (And.intro (Exists.intro [] (Exists.intro [] (Exists.intro [] (Exists.intro [] (Exists.intro [(0, some 1), (1, some 0), (2, none)] (And.intro rfl (And.intro rfl (And.intro rfl (And.intro rfl (And.intro rfl (And.intro rfl (And.intro (And.intro rfl trivial) (And.intro rfl (And.intro rfl (And.intro rfl trivial))))))))))))))) (And.intro (fun _ _ h => loopZ h) (And.intro (fun m => curI (fun all => curI (fun great => curI (fun from_ => curI (fun i => fun l2 z hF => ?_))))) ?_))))
        · have hF : f8_l6 l (loopF (fun go x => f8_l6 l go x.1 x.2.1 x.2.2.1 x.2.2.2.1 x.2.2.2.2) m) all great from_ i l2 = some z := hF
          unfold f8_l6 at hF
          refine Or.inl ?_
          refine Or.inl ?_
          refine condI hF (fun hF => ?_) (fun hF => ?_)
          · refine Or.inl ?_
            obtain ⟨z8, hz8, hF⟩ := bindE hF
            refine Or.inr ⟨Sum.elim (fun z8a => [(0, ⟨[(1, .dat (.sl (.int .i64)) l), (5, .raw false [(.ptr 0 0)]), (6, .dat (.int .i64) all), (7, .dat .bool great), (8, .dat (.int .i64) from_), (9, .dat (.int .i64) i)], [(0, .cells [(.osl 1), (.osl 2)]), (1, .arr 3 (.int .i64) ([in_])), (2, .arr 70 (.p .str (.p (.int .i64) (.int .i64))) l2)], 3⟩)]) (fun z8b => [(1, ⟨[(4, .dat .bool true)], [], 0⟩)]) z8, ?_, ?_⟩
            · have hF := hz8
              clear hz8
              unfold f8_j7 at hF
              refine Or.inl ?_
              refine guardI hF (fun hF => ?_)
              refine condN hF (fun hF => ?_) (fun hF => ?_)
              · refine gdYF ?_
                refine gdYF ?_
                refine guardI hF (fun hF => ?_)
                refine gdYF ?_
                refine gdYF ?_
                refine condF ?_
                refine condI hF (fun hF => ?_) (fun hF => ?_)
                · refine Or.inl ?_
                  have hz := someE hF
                  subst hz
                  refine Exists.intro [] (Exists.intro [] (Exists.intro [] (Exists.intro [] (Exists.intro [] (And.intro rfl (And.intro rfl (And.intro trivial trivial)))))))
                · have hz := someE hF
                  subst hz
                  refine Exists.intro [] (Exists.intro [] (Exists.intro [] (Exists.intro [] (Exists.intro [(0, some 0), (1, some 1), (2, some 2)] (And.intro rfl (And.intro rfl (And.intro rfl (And.intro rfl (And.intro rfl (And.intro rfl (And.intro (And.intro rfl trivial) (And.intro rfl (And.intro rfl (And.intro rfl trivial))))))))))))))
              · refine gdNF ?_
                refine gdNF ?_
                refine gdNF ?_
                refine gdNF ?_
                refine condT ?_
                refine condT ?_
                refine Or.inl ?_
                have hz := someE hF
                subst hz
                refine Exists.intro [] (Exists.intro [] (Exists.intro [] (Exists.intro [] (Exists.intro [] (And.intro rfl (And.intro rfl (And.intro trivial trivial)))))))
            · rcases z8 with z8a | z8b
              · dsimp only [sumF] at hF
                refine And.intro ?_ trivial
                refine Or.inl ?_
                refine Exists.intro (.take 0 (.take 1 (.take 2 (.take 3 (.take 4 (.take 5 (.take 6 (.alt 7 (.alt 8 (.take 9 (.alt 10 .done .done)) .done) .done)))))))) (Exists.intro [(10, [0])] (Exists.intro [] (And.intro rfl ?_)))
                refine guardI hF (fun hF => ?_)
                refine And.intro trivial ?_
                refine Or.inl ?_
                refine And.intro trivial ?_
                refine Or.inl ?_
                refine guardI hF (fun hF => ?_)
                refine And.intro trivial ?_
                refine Or.inl ?_
                obtain ⟨z9, hz9, hF⟩ := bindE hF
                refine Or.inr ⟨[(0, ⟨[(1, .dat (.sl (.int .i64)) l), (5, .raw false [(.ptr 0 0)]), (6, .dat (.int .i64) all), (7, .dat .bool z9), (8, .dat (.int .i64) from_), (9, .dat (.int .i64) i)], [(0, .cells [(.osl 1), (.osl 2)]), (1, .arr 3 (.int .i64) ([in_])), (2, .arr 70 (.p .str (.p (.int .i64) (.int .i64))) (l2 ++ ([((ByteArray.mk #[100, 101, 110, 115, 101]), (rd (0 : Int) l i), (0 : Int))])))], 3⟩)], ?_, ?_⟩
                · have hF := hz9
                  clear hz9
                  unfold f8_j8 at hF
                  refine condN hF (fun hF => ?_) (fun hF => ?_)
                  · refine gdYF ?_
                    refine gdYF ?_
                    refine gdYF ?_
                    refine guardI hF (fun hF => ?_)
                    refine gdYF ?_
                    refine gdYF ?_
                    refine gdYF ?_
                    refine condF ?_
                    have hz := someE hF
                    subst hz
                    refine Exists.intro [] (Exists.intro [] (Exists.intro [] (Exists.intro [] (Exists.intro [(0, some 0), (1, some 1), (2, some 4)] (And.intro rfl (And.intro rfl (And.intro rfl (And.intro rfl (And.intro rfl (And.intro rfl (And.intro (And.intro rfl trivial) (And.intro rfl (And.intro rfl (And.intro rfl trivial))))))))))))))
                  · refine gdNF ?_
                    refine gdNF ?_
                    refine gdNF ?_
                    refine gdNF ?_
                    refine gdNF ?_
                    refine gdNF ?_
                    refine condT ?_
                    have hz := someE hF
                    subst hz
                    refine Exists.intro [] (Exists.intro [] (Exists.intro [] (Exists.intro [] (Exists.intro [(0, some 0), (1, some 1), (2, some 4)] (And.intro rfl (And.intro rfl (And.intro rfl (And.intro rfl (And.intro rfl (And.intro rfl (And.intro (And.intro rfl trivial) (And.intro rfl (And.intro rfl (And.intro rfl trivial))))))))))))))
                · refine And.intro ?_ trivial
                  refine Or.inl ?_
                  refine Exists.intro (.take 0 (.take 1 (.take 2 (.take 3 (.take 4 (.take 5 (.take 6 (.take 7 (.take 8 (.take 9 (.take 10 (.take 11 (.take 12 (.take 13 .done)))))))))))))) (Exists.intro [] (Exists.intro [] (And.intro rfl ?_)))
                  refine guardI hF (fun hF => ?_)
                  refine guardI hF (fun hF => ?_)
                  refine guardI hF (fun hF => ?_)
                  refine Exists.intro ((IntKind.i64.wrap ((IntKind.i64.wrap (all + (IntKind.i64.wrap (from_ * (rd (0 : Int) l i))))) + (rd (0 : Int) l i))), z9, (rd (0 : Int) l i), (IntKind.i64.wrap (i + (1 : Int))), (l2 ++ ([((ByteArray.mk #[100, 101, 110, 115, 101]), (rd (0 : Int) l i), (0 : Int))]))) (And.intro hF (Exists.intro [] (Exists.intro [] (Exists.intro [] (Exists.intro [] (Exists.intro [(0, some 0), (1, some 1), (2, some 2)] (And.intro rfl (And.intro rfl (And.intro rfl (And.intro rfl (And.intro rfl (And.intro rfl (And.intro (And.intro rfl trivial) (And.intro rfl (And.intro rfl (And.intro rfl trivial))))))))))))))))
              · dsimp only [sumF] at hF
                refine And.intro ?_ trivial
                have hz := someE hF
                subst hz
                refine Exists.intro [] (Exists.intro [] (Exists.intro [] (Exists.intro [] (Exists.intro [] (And.intro rfl (And.intro rfl (And.intro trivial trivial)))))))
          · have hz := someE hF
            subst hz
            refine Exists.intro [] (Exists.intro [] (Exists.intro [] (Exists.intro [] (Exists.intro [(0, some 0), (1, some 1), (2, some 2)] (And.intro rfl (And.intro rfl (And.intro rfl (And.intro (And.intro rfl trivial) (And.intro rfl (And.intro rfl (And.intro rfl trivial)))))))))))
        · rcases z7 with z7a | z7b
          · dsimp only [sumF] at hF
            refine And.intro ?_ trivial
            have hy := someE hF
            subst hy
            refine And.intro rfl (Exists.intro [] (Exists.intro [] (Exists.intro [] (Exists.intro [] (Exists.intro [] (And.intro rfl (And.intro rfl (And.intro trivial trivial))))))))
          · dsimp only [sumF] at hF
            refine And.intro ?_ trivial
            refine Or.inl ?_
            obtain ⟨q14_13, hq14_13, hF⟩ := bindE hF
            refine Or.inl (And.intro f12_in (callV0 (callI C12 ([in_], z7b.2.2) q14_13 [] true C12_holds hq14_13 rfl rfl ?_)))
            refine (And.intro rfl (And.intro rfl (And.intro (fun _ => rfl) (And.intro rfl (And.intro rfl (And.intro trivial (And.intro trivial ?_)))))))
            obtain ⟨z11, hz11, hF⟩ := bindE hF
            refine Or.inr ⟨Sum.elim (fun z11a => [(0, ⟨[(6, .dat (.int .i64) z7b.1), (10, .dat (.int .i64) q14_13.1), (11, .dat (.int .i64) q14_13.2)], [], 0⟩)]) (fun z11b => [(1, ⟨[(4, .dat .bool z11b)], [], 0⟩)]) z11, ?_, ?_⟩
            · have hF := hz11
              clear hz11
              unfold f8_j10 at hF
              obtain ⟨z12, hz12, hF⟩ := bindE hF
              refine Or.inr ⟨[(0, ⟨[(6, .dat (.int .i64) z7b.1), (10, .dat (.int .i64) q14_13.1), (11, .dat (.int .i64) q14_13.2), (93, .dat .bool z12)], [], 0⟩)], ?_, ?_⟩
              · have hF := hz12
                clear hz12
                unfold f8_j11 at hF
                refine condN hF (fun hF => ?_) (fun hF => ?_)
                · refine gdYF ?_
                  refine condF ?_
                  have hz := someE hF
                  subst hz
                  refine Exists.intro [] (Exists.intro [] (Exists.intro [] (Exists.intro [] (Exists.intro [] (And.intro rfl (And.intro rfl (And.intro rfl (And.intro rfl (And.intro rfl (And.intro trivial trivial))))))))))
                · refine gdNF ?_
                  refine condT ?_
                  have hz := someE hF
                  subst hz
                  refine Exists.intro [] (Exists.intro [] (Exists.intro [] (Exists.intro [] (Exists.intro [] (And.intro rfl (And.intro rfl (And.intro rfl (And.intro rfl (And.intro rfl (And.intro trivial trivial))))))))))
              · refine And.intro ?_ trivial
                refine condI hF (fun hF => ?_) (fun hF => ?_)
                · refine Or.inl ?_
                  refine condI hF (fun hF => ?_) (fun hF => ?_)
                  · refine gdYT ?_
                    refine condT ?_
                    have hz := someE hF
                    subst hz
                    refine Exists.intro [] (Exists.intro [] (Exists.intro [] (Exists.intro [] (Exists.intro [] (And.intro rfl (And.intro rfl (And.intro trivial trivial)))))))
                  · refine gdNT ?_
                    refine condF ?_
                    have hz := someE hF
                    subst hz
                    refine Exists.intro [] (Exists.intro [] (Exists.intro [] (Exists.intro [] (Exists.intro [] (And.intro rfl (And.intro rfl (And.intro trivial trivial)))))))
                · have hz := someE hF
                  subst hz
                  refine Exists.intro [] (Exists.intro [] (Exists.intro [] (Exists.intro [] (Exists.intro [] (And.intro rfl (And.intro rfl (And.intro rfl (And.intro rfl (And.intro trivial trivial)))))))))
            · rcases z11 with z11a | z11b
              · dsimp only [sumF] at hF
                refine And.intro ?_ trivial
                refine Or.inl ?_
                refine condI hF (fun hF => ?_) (fun hF => ?_)
                · refine gdYT ?_
                  refine gdYT ?_
                  refine condT ?_
                  have hy := someE hF
                  subst hy
                  refine And.intro rfl (Exists.intro [] (Exists.intro [] (Exists.intro [] (Exists.intro [] (Exists.intro [] (And.intro rfl (And.intro rfl (And.intro trivial trivial))))))))
                · refine gdNT ?_
                  refine gdNT ?_
                  refine condF ?_
                  have hy := someE hF
                  subst hy
                  refine And.intro rfl (Exists.intro [] (Exists.intro [] (Exists.intro [] (Exists.intro [] (Exists.intro [] (And.intro rfl (And.intro rfl (And.intro trivial trivial))))))))
              · dsimp only [sumF] at hF
                refine And.intro ?_ trivial
                have hy := someE hF
                subst hy
                refine And.intro rfl (Exists.intro [] (Exists.intro [] (Exists.intro [] (Exists.intro [] (Exists.intro [] (And.intro rfl (And.intro rfl (And.intro trivial trivial))))))))
      · dsimp only [sumF] at hF
        refine And.intro ?_ trivial
        have hy := someE hF
        subst hy
        refine And.intro rfl (Exists.intro [] (Exists.intro [] (Exists.intro [] (Exists.intro [] (Exists.intro [] (And.intro rfl (And.intro rfl (And.intro trivial trivial))))))))
theorem C8_holds : C8.Holds Tryz.prog 8 := holds_of_vc tab_ok mixed (fn := Tryz.f8) (by kernel_rfl) rfl C8 (fun x y hF => C8_vc x.1 x.2 y hF)
theorem f8_in : ∃ fn, Tryz.prog.funcs[8]? = some fn ∧ fn.body.isSome = true ∧ (fn.name == "runtime.NumGoroutine") = false := ⟨Tryz.f8, by kernel_rfl, by kernel_rfl, by kernel_rfl⟩
end Go.Proofs
