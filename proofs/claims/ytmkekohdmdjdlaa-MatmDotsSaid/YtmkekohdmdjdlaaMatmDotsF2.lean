import Derived.Test.YtmkekohdmdjdlaaMatmDotsF1
set_option linter.unusedVariables false
set_option maxRecDepth 100000
set_option maxHeartbeats 8000000
namespace Go.Proofs
open Go.AM
-- carousel/carouselref1.minus
def f71_l1 (a_0 : Int) (a_1 : Int) (a_2 : Int) (a_3 : Int) (b_0 : Int) (b_1 : Int) (b_2 : Int) (b_3 : Int) (go : (Int × Int × Int × Int × Int × Int) → Option (Int × Int × Int × Int)) (borrow : Int) (i : Int) (c3_0 : Int) (c3_1 : Int) (c3_2 : Int) (c3_3 : Int) : Option (Int × Int × Int × Int) :=
  bif (decide (i < (4 : Int))) then
    guardF (0 ≤ i ∧ i < (4 : Int)) <|
    pickF i
      [(bif (decide (a_0 < b_0)) then
          go ((1 : Int), (IntKind.i64.wrap (i + (1 : Int))), (IntKind.u64.wrap ((IntKind.u64.wrap (a_0 - b_0)) - borrow)), c3_1, c3_2, c3_3)
        else
          bif (decide ((IntKind.u64.wrap (a_0 - b_0)) < borrow)) then
            go ((1 : Int), (IntKind.i64.wrap (i + (1 : Int))), (IntKind.u64.wrap ((IntKind.u64.wrap (a_0 - b_0)) - borrow)), c3_1, c3_2, c3_3)
          else
            go ((0 : Int), (IntKind.i64.wrap (i + (1 : Int))), (IntKind.u64.wrap ((IntKind.u64.wrap (a_0 - b_0)) - borrow)), c3_1, c3_2, c3_3)),
       (bif (decide (a_1 < b_1)) then
          go ((1 : Int), (IntKind.i64.wrap (i + (1 : Int))), c3_0, (IntKind.u64.wrap ((IntKind.u64.wrap (a_1 - b_1)) - borrow)), c3_2, c3_3)
        else
          bif (decide ((IntKind.u64.wrap (a_1 - b_1)) < borrow)) then
            go ((1 : Int), (IntKind.i64.wrap (i + (1 : Int))), c3_0, (IntKind.u64.wrap ((IntKind.u64.wrap (a_1 - b_1)) - borrow)), c3_2, c3_3)
          else
            go ((0 : Int), (IntKind.i64.wrap (i + (1 : Int))), c3_0, (IntKind.u64.wrap ((IntKind.u64.wrap (a_1 - b_1)) - borrow)), c3_2, c3_3)),
       (bif (decide (a_2 < b_2)) then
          go ((1 : Int), (IntKind.i64.wrap (i + (1 : Int))), c3_0, c3_1, (IntKind.u64.wrap ((IntKind.u64.wrap (a_2 - b_2)) - borrow)), c3_3)
        else
          bif (decide ((IntKind.u64.wrap (a_2 - b_2)) < borrow)) then
            go ((1 : Int), (IntKind.i64.wrap (i + (1 : Int))), c3_0, c3_1, (IntKind.u64.wrap ((IntKind.u64.wrap (a_2 - b_2)) - borrow)), c3_3)
          else
            go ((0 : Int), (IntKind.i64.wrap (i + (1 : Int))), c3_0, c3_1, (IntKind.u64.wrap ((IntKind.u64.wrap (a_2 - b_2)) - borrow)), c3_3)),
       (bif (decide (a_3 < b_3)) then
          go ((1 : Int), (IntKind.i64.wrap (i + (1 : Int))), c3_0, c3_1, c3_2, (IntKind.u64.wrap ((IntKind.u64.wrap (a_3 - b_3)) - borrow)))
        else
          bif (decide ((IntKind.u64.wrap (a_3 - b_3)) < borrow)) then
            go ((1 : Int), (IntKind.i64.wrap (i + (1 : Int))), c3_0, c3_1, c3_2, (IntKind.u64.wrap ((IntKind.u64.wrap (a_3 - b_3)) - borrow)))
          else
            go ((0 : Int), (IntKind.i64.wrap (i + (1 : Int))), c3_0, c3_1, c3_2, (IntKind.u64.wrap ((IntKind.u64.wrap (a_3 - b_3)) - borrow))))]
  else
    some (c3_0, c3_1, c3_2, c3_3)
def f71 (a_0 : Int) (a_1 : Int) (a_2 : Int) (a_3 : Int) (b_0 : Int) (b_1 : Int) (b_2 : Int) (b_3 : Int) : Option (Int × Int × Int × Int) :=
  bindF (loopF (fun go x => f71_l1 a_0 a_1 a_2 a_3 b_0 b_1 b_2 b_3 go x.1 x.2.1 x.2.2.1 x.2.2.2.1 x.2.2.2.2.1 x.2.2.2.2.2) fuelN ((0 : Int), (0 : Int), (0 : Int), (0 : Int), (0 : Int), (0 : Int))) fun z3 =>
  some (z3.1, z3.2.1, z3.2.2.1, z3.2.2.2)
def C71 : Con where
  X := Int × Int × Int × Int × Int × Int × Int × Int
  Y := Int × Int × Int × Int
  e := 0
  args x := [.raw true [(.d (.int .u64) x.1), (.d (.int .u64) x.2.1), (.d (.int .u64) x.2.2.1), (.d (.int .u64) x.2.2.2.1)], .raw true [(.d (.int .u64) x.2.2.2.2.1), (.d (.int .u64) x.2.2.2.2.2.1), (.d (.int .u64) x.2.2.2.2.2.2.1), (.d (.int .u64) x.2.2.2.2.2.2.2)]]
  hin x := []
  F x := f71 x.1 x.2.1 x.2.2.1 x.2.2.2.1 x.2.2.2.2.1 x.2.2.2.2.2.1 x.2.2.2.2.2.2.1 x.2.2.2.2.2.2.2
  ret y := [.raw true [(.d (.int .u64) y.1), (.d (.int .u64) y.2.1), (.d (.int .u64) y.2.2.1), (.d (.int .u64) y.2.2.2)]]
  hout y := []
  nout := 0
theorem C71_vc (a_0 : Int) (a_1 : Int) (a_2 : Int) (a_3 : Int) (b_0 : Int) (b_1 : Int) (b_2 : Int) (b_3 : Int) (y : Int × Int × Int × Int) (hF : f71 a_0 a_1 a_2 a_3 b_0 b_1 b_2 b_3 = some y) : vc Try.prog tab Try.f71.ntmps 0 (match Try.f71.body with | some c => c | none => .skip) (retK tab C71 Try.f71.results.toList y) (C71.shIn (a_0, a_1, a_2, a_3, b_0, b_1, b_2, b_3)).st := by
  unfold f71 at hF
  refine Or.inl ?_
  refine Or.inl ?_
  refine Or.inl ?_
  refine Or.inl ?_
  refine Or.inl ?_
  obtain ⟨z3, hz3, hF⟩ := bindE hF
  refine loopI (Int × Int × Int × Int × Int × Int) (Int × Int × Int × Int) (fun x => ⟨[(2, .raw false [(.ptr 0 0)]), (3, .raw false [(.ptr 1 0)]), (4, .raw false [(.ptr 2 0)]), (5, .raw false [(.ptr 3 0)]), (6, .dat (.int .u64) x.1), (7, .dat (.int .i64) x.2.1)], [(0, .cells [(.d (.int .u64) a_0), (.d (.int .u64) a_1), (.d (.int .u64) a_2), (.d (.int .u64) a_3)]), (1, .cells [(.d (.int .u64) b_0), (.d (.int .u64) b_1), (.d (.int .u64) b_2), (.d (.int .u64) b_3)]), (2, .cells [(.d (.int .u64) (0 : Int)), (.d (.int .u64) (0 : Int)), (.d (.int .u64) (0 : Int)), (.d (.int .u64) (0 : Int))]), (3, .cells [(.d (.int .u64) x.2.2.1), (.d (.int .u64) x.2.2.2.1), (.d (.int .u64) x.2.2.2.2.1), (.d (.int .u64) x.2.2.2.2.2)])], 4⟩) (fun z => [(2, ⟨[(4, .raw false [(.ptr 0 0)]), (5, .raw false [(.ptr 1 0)])], [(0, .cells [(.d (.int .u64) (0 : Int)), (.d (.int .u64) (0 : Int)), (.d (.int .u64) (0 : Int)), (.d (.int .u64) (0 : Int))]), (1, .cells [(.d (.int .u64) z.1), (.d (.int .u64) z.2.1), (.d (.int .u64) z.2.2.1), (.d (.int .u64) z.2.2.2)])], 2⟩)]) (loopF (fun go x => f71_l1 a_0 a_1 a_2 a_3 b_0 b_1 b_2 b_3 go x.1 x.2.1 x.2.2.1 x.2.2.2.1 x.2.2.2.2.1 x.2.2.2.2.2)) fuelN ((0 : Int), (0 : Int), (0 : Int), (0 : Int), (0 : Int), (0 : Int)) z3 (And.intro hz3 (And.intro (Exists.intro [] (Exists.intro [] (Exists.intro [] (Exists.intro [] (Exists.intro [(0, some 0), (1, some 1), (2, some 2), (3, some 3)] (And.intro rfl (And.intro rfl (And.intro rfl (And.intro (And.intro rfl (And.intro rfl (And.intro rfl (And.intro rfl trivial)))) (And.intro rfl (And.intro rfl (And.intro rfl (And.intro rfl trivial))))))))))))) (And.intro (fun _ _ h => loopZ h) (And.intro (fun m => curI (fun borrow => curI (fun i => curI (fun c3_0 => curI (fun c3_1 => curI (fun c3_2 => fun c3_3 z hF => ?_)))))) ?_))))
  · have hF : f71_l1 a_0 a_1 a_2 a_3 b_0 b_1 b_2 b_3 (loopF (fun go x => f71_l1 a_0 a_1 a_2 a_3 b_0 b_1 b_2 b_3 go x.1 x.2.1 x.2.2.1 x.2.2.2.1 x.2.2.2.2.1 x.2.2.2.2.2) m) borrow i c3_0 c3_1 c3_2 c3_3 = some z := hF
    unfold f71_l1 at hF
    refine Or.inl ?_
    refine Or.inl ?_
    refine condI hF (fun hF => ?_) (fun hF => ?_)
    · refine Or.inl ?_
      refine Or.inl ?_
      refine Exists.intro (.take 0 (.take 1 (.take 2 (.take 3 (.take 4 (.take 5 (.take 6 (.take 7 .done)))))))) (Exists.intro [] (Exists.intro [] (And.intro rfl ?_)))
      refine guardI hF (fun hF => ?_)
      refine And.intro (fun hk4 => ?_) ?_
      · have hF := pickE hF hk4
        dsimp only [nthO] at hF
        refine And.intro (rangeE hk4 (by decide)) ?_
        refine And.intro (fun _ => ?_) (And.intro (fun h => absurd (hk4.symm.trans h) (by decide)) (And.intro (fun h => absurd (hk4.symm.trans h) (by decide)) (And.intro (fun h => absurd (hk4.symm.trans h) (by decide)) trivial)))
        refine Or.inl ?_
        refine Or.inl ?_
        refine And.intro (rangeE hk4 (by decide)) ?_
        refine And.intro (fun _ => ?_) (And.intro (fun h => absurd (hk4.symm.trans h) (by decide)) (And.intro (fun h => absurd (hk4.symm.trans h) (by decide)) (And.intro (fun h => absurd (hk4.symm.trans h) (by decide)) trivial)))
        refine Or.inl ?_
        refine Or.inl ?_
        refine Exists.intro (.take 0 (.take 1 (.take 2 (.take 3 (.take 4 (.take 5 (.take 6 (.take 7 (.take 8 (.take 9 (.take 10 (.take 11 .done)))))))))))) (Exists.intro [] (Exists.intro [] (And.intro rfl ?_)))
        refine And.intro (rangeE hk4 (by decide)) ?_
        refine And.intro (fun _ => ?_) (And.intro (fun h => absurd (hk4.symm.trans h) (by decide)) (And.intro (fun h => absurd (hk4.symm.trans h) (by decide)) (And.intro (fun h => absurd (hk4.symm.trans h) (by decide)) trivial)))
        refine And.intro (rangeE hk4 (by decide)) ?_
        refine And.intro (fun _ => ?_) (And.intro (fun h => absurd (hk4.symm.trans h) (by decide)) (And.intro (fun h => absurd (hk4.symm.trans h) (by decide)) (And.intro (fun h => absurd (hk4.symm.trans h) (by decide)) trivial)))
        refine condN hF (fun hF => ?_) (fun hF => ?_)
        · refine gdYF ?_
          refine gdYF ?_
          refine condF ?_
          refine condI hF (fun hF => ?_) (fun hF => ?_)
          · refine Exists.intro ((1 : Int), (IntKind.i64.wrap (i + (1 : Int))), (IntKind.u64.wrap ((IntKind.u64.wrap (a_0 - b_0)) - borrow)), c3_1, c3_2, c3_3) (And.intro hF (Exists.intro [] (Exists.intro [] (Exists.intro [] (Exists.intro [] (Exists.intro [(0, some 0), (1, some 1), (2, some 2), (3, some 3)] (And.intro rfl (And.intro rfl (And.intro rfl (And.intro (And.intro rfl (And.intro rfl (And.intro rfl (And.intro rfl trivial)))) (And.intro rfl (And.intro rfl (And.intro rfl (And.intro rfl trivial))))))))))))))
          · refine Exists.intro ((0 : Int), (IntKind.i64.wrap (i + (1 : Int))), (IntKind.u64.wrap ((IntKind.u64.wrap (a_0 - b_0)) - borrow)), c3_1, c3_2, c3_3) (And.intro hF (Exists.intro [] (Exists.intro [] (Exists.intro [] (Exists.intro [] (Exists.intro [(0, some 0), (1, some 1), (2, some 2), (3, some 3)] (And.intro rfl (And.intro rfl (And.intro rfl (And.intro (And.intro rfl (And.intro rfl (And.intro rfl (And.intro rfl trivial)))) (And.intro rfl (And.intro rfl (And.intro rfl (And.intro rfl trivial))))))))))))))
        · refine gdNF ?_
          refine gdNF ?_
          refine condT ?_
          refine condT ?_
          refine Exists.intro ((1 : Int), (IntKind.i64.wrap (i + (1 : Int))), (IntKind.u64.wrap ((IntKind.u64.wrap (a_0 - b_0)) - borrow)), c3_1, c3_2, c3_3) (And.intro hF (Exists.intro [] (Exists.intro [] (Exists.intro [] (Exists.intro [] (Exists.intro [(0, some 0), (1, some 1), (2, some 2), (3, some 3)] (And.intro rfl (And.intro rfl (And.intro rfl (And.intro (And.intro rfl (And.intro rfl (And.intro rfl (And.intro rfl trivial)))) (And.intro rfl (And.intro rfl (And.intro rfl (And.intro rfl trivial))))))))))))))
      refine And.intro (fun hk4 => ?_) ?_
      · have hF := pickE hF hk4
        dsimp only [nthO] at hF
        refine And.intro (rangeE hk4 (by decide)) ?_
        refine And.intro (fun h => absurd (hk4.symm.trans h) (by decide)) ?_
        refine And.intro (fun _ => ?_) (And.intro (fun h => absurd (hk4.symm.trans h) (by decide)) (And.intro (fun h => absurd (hk4.symm.trans h) (by decide)) trivial))
        refine Or.inl ?_
        refine Or.inl ?_
        refine And.intro (rangeE hk4 (by decide)) ?_
        refine And.intro (fun h => absurd (hk4.symm.trans h) (by decide)) ?_
        refine And.intro (fun _ => ?_) (And.intro (fun h => absurd (hk4.symm.trans h) (by decide)) (And.intro (fun h => absurd (hk4.symm.trans h) (by decide)) trivial))
        refine Or.inl ?_
        refine Or.inl ?_
        refine Exists.intro (.take 0 (.take 1 (.take 2 (.take 3 (.take 4 (.take 5 (.take 6 (.take 7 (.take 8 (.take 9 (.take 10 (.take 11 .done)))))))))))) (Exists.intro [] (Exists.intro [] (And.intro rfl ?_)))
        refine And.intro (rangeE hk4 (by decide)) ?_
        refine And.intro (fun h => absurd (hk4.symm.trans h) (by decide)) ?_
        refine And.intro (fun _ => ?_) (And.intro (fun h => absurd (hk4.symm.trans h) (by decide)) (And.intro (fun h => absurd (hk4.symm.trans h) (by decide)) trivial))
        refine And.intro (rangeE hk4 (by decide)) ?_
        refine And.intro (fun h => absurd (hk4.symm.trans h) (by decide)) ?_
        refine And.intro (fun _ => ?_) (And.intro (fun h => absurd (hk4.symm.trans h) (by decide)) (And.intro (fun h => absurd (hk4.symm.trans h) (by decide)) trivial))
        refine condN hF (fun hF => ?_) (fun hF => ?_)
        · refine gdYF ?_
          refine gdYF ?_
          refine condF ?_
          refine condI hF (fun hF => ?_) (fun hF => ?_)
          · refine Exists.intro ((1 : Int), (IntKind.i64.wrap (i + (1 : Int))), c3_0, (IntKind.u64.wrap ((IntKind.u64.wrap (a_1 - b_1)) - borrow)), c3_2, c3_3) (And.intro hF (Exists.intro [] (Exists.intro [] (Exists.intro [] (Exists.intro [] (Exists.intro [(0, some 0), (1, some 1), (2, some 2), (3, some 3)] (And.intro rfl (And.intro rfl (And.intro rfl (And.intro (And.intro rfl (And.intro rfl (And.intro rfl (And.intro rfl trivial)))) (And.intro rfl (And.intro rfl (And.intro rfl (And.intro rfl trivial))))))))))))))
          · refine Exists.intro ((0 : Int), (IntKind.i64.wrap (i + (1 : Int))), c3_0, (IntKind.u64.wrap ((IntKind.u64.wrap (a_1 - b_1)) - borrow)), c3_2, c3_3) (And.intro hF (Exists.intro [] (Exists.intro [] (Exists.intro [] (Exists.intro [] (Exists.intro [(0, some 0), (1, some 1), (2, some 2), (3, some 3)] (And.intro rfl (And.intro rfl (And.intro rfl (And.intro (And.intro rfl (And.intro rfl (And.intro rfl (And.intro rfl trivial)))) (And.intro rfl (And.intro rfl (And.intro rfl (And.intro rfl trivial))))))))))))))
        · refine gdNF ?_
          refine gdNF ?_
          refine condT ?_
          refine condT ?_
          refine Exists.intro ((1 : Int), (IntKind.i64.wrap (i + (1 : Int))), c3_0, (IntKind.u64.wrap ((IntKind.u64.wrap (a_1 - b_1)) - borrow)), c3_2, c3_3) (And.intro hF (Exists.intro [] (Exists.intro [] (Exists.intro [] (Exists.intro [] (Exists.intro [(0, some 0), (1, some 1), (2, some 2), (3, some 3)] (And.intro rfl (And.intro rfl (And.intro rfl (And.intro (And.intro rfl (And.intro rfl (And.intro rfl (And.intro rfl trivial)))) (And.intro rfl (And.intro rfl (And.intro rfl (And.intro rfl trivial))))))))))))))
      refine And.intro (fun hk4 => ?_) ?_
      · have hF := pickE hF hk4
        dsimp only [nthO] at hF
        refine And.intro (rangeE hk4 (by decide)) ?_
        refine And.intro (fun h => absurd (hk4.symm.trans h) (by decide)) ?_
        refine And.intro (fun h => absurd (hk4.symm.trans h) (by decide)) ?_
        refine And.intro (fun _ => ?_) (And.intro (fun h => absurd (hk4.symm.trans h) (by decide)) trivial)
        refine Or.inl ?_
        refine Or.inl ?_
        refine And.intro (rangeE hk4 (by decide)) ?_
        refine And.intro (fun h => absurd (hk4.symm.trans h) (by decide)) ?_
        refine And.intro (fun h => absurd (hk4.symm.trans h) (by decide)) ?_
        refine And.intro (fun _ => ?_) (And.intro (fun h => absurd (hk4.symm.trans h) (by decide)) trivial)
        refine Or.inl ?_
        refine Or.inl ?_
        refine Exists.intro (.take 0 (.take 1 (.take 2 (.take 3 (.take 4 (.take 5 (.take 6 (.take 7 (.take 8 (.take 9 (.take 10 (.take 11 .done)))))))))))) (Exists.intro [] (Exists.intro [] (And.intro rfl ?_)))
        refine And.intro (rangeE hk4 (by decide)) ?_
        refine And.intro (fun h => absurd (hk4.symm.trans h) (by decide)) ?_
        refine And.intro (fun h => absurd (hk4.symm.trans h) (by decide)) ?_
        refine And.intro (fun _ => ?_) (And.intro (fun h => absurd (hk4.symm.trans h) (by decide)) trivial)
        refine And.intro (rangeE hk4 (by decide)) ?_
        refine And.intro (fun h => absurd (hk4.symm.trans h) (by decide)) ?_
        refine And.intro (fun h => absurd (hk4.symm.trans h) (by decide)) ?_
        refine And.intro (fun _ => ?_) (And.intro (fun h => absurd (hk4.symm.trans h) (by decide)) trivial)
        refine condN hF (fun hF => ?_) (fun hF => ?_)
        · refine gdYF ?_
          refine gdYF ?_
          refine condF ?_
          refine condI hF (fun hF => ?_) (fun hF => ?_)
          · refine Exists.intro ((1 : Int), (IntKind.i64.wrap (i + (1 : Int))), c3_0, c3_1, (IntKind.u64.wrap ((IntKind.u64.wrap (a_2 - b_2)) - borrow)), c3_3) (And.intro hF (Exists.intro [] (Exists.intro [] (Exists.intro [] (Exists.intro [] (Exists.intro [(0, some 0), (1, some 1), (2, some 2), (3, some 3)] (And.intro rfl (And.intro rfl (And.intro rfl (And.intro (And.intro rfl (And.intro rfl (And.intro rfl (And.intro rfl trivial)))) (And.intro rfl (And.intro rfl (And.intro rfl (And.intro rfl trivial))))))))))))))
          · refine Exists.intro ((0 : Int), (IntKind.i64.wrap (i + (1 : Int))), c3_0, c3_1, (IntKind.u64.wrap ((IntKind.u64.wrap (a_2 - b_2)) - borrow)), c3_3) (And.intro hF (Exists.intro [] (Exists.intro [] (Exists.intro [] (Exists.intro [] (Exists.intro [(0, some 0), (1, some 1), (2, some 2), (3, some 3)] (And.intro rfl (And.intro rfl (And.intro rfl (And.intro (And.intro rfl (And.intro rfl (And.intro rfl (And.intro rfl trivial)))) (And.intro rfl (And.intro rfl (And.intro rfl (And.intro rfl trivial))))))))))))))
        · refine gdNF ?_
          refine gdNF ?_
          refine condT ?_
          refine condT ?_
          refine Exists.intro ((1 : Int), (IntKind.i64.wrap (i + (1 : Int))), c3_0, c3_1, (IntKind.u64.wrap ((IntKind.u64.wrap (a_2 - b_2)) - borrow)), c3_3) (And.intro hF (Exists.intro [] (Exists.intro [] (Exists.intro [] (Exists.intro [] (Exists.intro [(0, some 0), (1, some 1), (2, some 2), (3, some 3)] (And.intro rfl (And.intro rfl (And.intro rfl (And.intro (And.intro rfl (And.intro rfl (And.intro rfl (And.intro rfl trivial)))) (And.intro rfl (And.intro rfl (And.intro rfl (And.intro rfl trivial))))))))))))))
      refine And.intro (fun hk4 => ?_) trivial
      have hF := pickE hF hk4
      dsimp only [nthO] at hF
      refine And.intro (rangeE hk4 (by decide)) ?_
      refine And.intro (fun h => absurd (hk4.symm.trans h) (by decide)) ?_
      refine And.intro (fun h => absurd (hk4.symm.trans h) (by decide)) ?_
      refine And.intro (fun h => absurd (hk4.symm.trans h) (by decide)) ?_
      refine And.intro (fun _ => ?_) trivial
      refine Or.inl ?_
      refine Or.inl ?_
      refine And.intro (rangeE hk4 (by decide)) ?_
      refine And.intro (fun h => absurd (hk4.symm.trans h) (by decide)) ?_
      refine And.intro (fun h => absurd (hk4.symm.trans h) (by decide)) ?_
      refine And.intro (fun h => absurd (hk4.symm.trans h) (by decide)) ?_
      refine And.intro (fun _ => ?_) trivial
      refine Or.inl ?_
      refine Or.inl ?_
      refine Exists.intro (.take 0 (.take 1 (.take 2 (.take 3 (.take 4 (.take 5 (.take 6 (.take 7 (.take 8 (.take 9 (.take 10 (.take 11 .done)))))))))))) (Exists.intro [] (Exists.intro [] (And.intro rfl ?_)))
      refine And.intro (rangeE hk4 (by decide)) ?_
      refine And.intro (fun h => absurd (hk4.symm.trans h) (by decide)) ?_
      refine And.intro (fun h => absurd (hk4.symm.trans h) (by decide)) ?_
      refine And.intro (fun h => absurd (hk4.symm.trans h) (by decide)) ?_
      refine And.intro (fun _ => ?_) trivial
      refine And.intro (rangeE hk4 (by decide)) ?_
      refine And.intro (fun h => absurd (hk4.symm.trans h) (by decide)) ?_
      refine And.intro (fun h => absurd (hk4.symm.trans h) (by decide)) ?_
      refine And.intro (fun h => absurd (hk4.symm.trans h) (by decide)) ?_
      refine And.intro (fun _ => ?_) trivial
      refine condN hF (fun hF => ?_) (fun hF => ?_)
      · refine gdYF ?_
        refine gdYF ?_
        refine condF ?_
        refine condI hF (fun hF => ?_) (fun hF => ?_)
        · refine Exists.intro ((1 : Int), (IntKind.i64.wrap (i + (1 : Int))), c3_0, c3_1, c3_2, (IntKind.u64.wrap ((IntKind.u64.wrap (a_3 - b_3)) - borrow))) (And.intro hF (Exists.intro [] (Exists.intro [] (Exists.intro [] (Exists.intro [] (Exists.intro [(0, some 0), (1, some 1), (2, some 2), (3, some 3)] (And.intro rfl (And.intro rfl (And.intro rfl (And.intro (And.intro rfl (And.intro rfl (And.intro rfl (And.intro rfl trivial)))) (And.intro rfl (And.intro rfl (And.intro rfl (And.intro rfl trivial))))))))))))))
        · refine Exists.intro ((0 : Int), (IntKind.i64.wrap (i + (1 : Int))), c3_0, c3_1, c3_2, (IntKind.u64.wrap ((IntKind.u64.wrap (a_3 - b_3)) - borrow))) (And.intro hF (Exists.intro [] (Exists.intro [] (Exists.intro [] (Exists.intro [] (Exists.intro [(0, some 0), (1, some 1), (2, some 2), (3, some 3)] (And.intro rfl (And.intro rfl (And.intro rfl (And.intro (And.intro rfl (And.intro rfl (And.intro rfl (And.intro rfl trivial)))) (And.intro rfl (And.intro rfl (And.intro rfl (And.intro rfl trivial))))))))))))))
      · refine gdNF ?_
        refine gdNF ?_
        refine condT ?_
        refine condT ?_
        refine Exists.intro ((1 : Int), (IntKind.i64.wrap (i + (1 : Int))), c3_0, c3_1, c3_2, (IntKind.u64.wrap ((IntKind.u64.wrap (a_3 - b_3)) - borrow))) (And.intro hF (Exists.intro [] (Exists.intro [] (Exists.intro [] (Exists.intro [] (Exists.intro [(0, some 0), (1, some 1), (2, some 2), (3, some 3)] (And.intro rfl (And.intro rfl (And.intro rfl (And.intro (And.intro rfl (And.intro rfl (And.intro rfl (And.intro rfl trivial)))) (And.intro rfl (And.intro rfl (And.intro rfl (And.intro rfl trivial))))))))))))))
    · have hz := someE hF
      subst hz
      refine Exists.intro [] (Exists.intro [] (Exists.intro [] (Exists.intro [] (Exists.intro [(0, some 2), (1, some 3)] (And.intro rfl (And.intro (And.intro rfl (And.intro rfl trivial)) (And.intro rfl (And.intro rfl trivial))))))))
  · refine And.intro ?_ trivial
    refine Or.inl ?_
    refine Or.inl ?_
    have hy := someE hF
    subst hy
    refine And.intro rfl (Exists.intro [] (Exists.intro [] (Exists.intro [] (Exists.intro [] (Exists.intro [] (And.intro rfl (And.intro (And.intro rfl trivial) trivial)))))))
theorem C71_holds : C71.Holds Try.prog 71 := holds_of_vc tab_ok mixed (fn := Try.f71) (by kernel_rfl) rfl C71 (fun x y hF => C71_vc x.1 x.2.1 x.2.2.1 x.2.2.2.1 x.2.2.2.2.1 x.2.2.2.2.2.1 x.2.2.2.2.2.2.1 x.2.2.2.2.2.2.2 y hF)
theorem f71_in : ∃ fn, Try.prog.funcs[71]? = some fn ∧ fn.body.isSome = true ∧ (fn.name == "runtime.NumGoroutine") = false := ⟨Try.f71, by kernel_rfl, by kernel_rfl, by kernel_rfl⟩
end Go.Proofs
namespace Go.Proofs
open Go.AM
-- carousel/carouselref1.Plus
def f38 (a_Neg : Bool) (a_M_0 : Int) (a_M_1 : Int) (a_M_2 : Int) (a_M_3 : Int) (b_Neg : Bool) (b_M_0 : Int) (b_M_1 : Int) (b_M_2 : Int) (b_M_3 : Int) : Option (Bool × Int × Int × Int × Int) :=
  bif (a_Neg == b_Neg) then
    bindF (f69 a_M_0 a_M_1 a_M_2 a_M_3 b_M_0 b_M_1 b_M_2 b_M_3) fun q2_6 =>
    some (a_Neg, q2_6.1, q2_6.2.1, q2_6.2.2.1, q2_6.2.2.2)
  else
    bindF (f70 a_M_0 a_M_1 a_M_2 a_M_3 b_M_0 b_M_1 b_M_2 b_M_3) fun q2_8 =>
    bif q2_8 then
      bindF (f71 b_M_0 b_M_1 b_M_2 b_M_3 a_M_0 a_M_1 a_M_2 a_M_3) fun q4_6 =>
      some (b_Neg, q4_6.1, q4_6.2.1, q4_6.2.2.1, q4_6.2.2.2)
    else
      bindF (f71 a_M_0 a_M_1 a_M_2 a_M_3 b_M_0 b_M_1 b_M_2 b_M_3) fun q5_6 =>
      some (a_Neg, q5_6.1, q5_6.2.1, q5_6.2.2.1, q5_6.2.2.2)
def C38 : Con where
  X := Bool × Int × Int × Int × Int × Bool × Int × Int × Int × Int
  Y := Bool × Int × Int × Int × Int
  e := 0
  args x := [.raw true [(.d .bool x.1), (.d (.int .u64) x.2.1), (.d (.int .u64) x.2.2.1), (.d (.int .u64) x.2.2.2.1), (.d (.int .u64) x.2.2.2.2.1)], .raw true [(.d .bool x.2.2.2.2.2.1), (.d (.int .u64) x.2.2.2.2.2.2.1), (.d (.int .u64) x.2.2.2.2.2.2.2.1), (.d (.int .u64) x.2.2.2.2.2.2.2.2.1), (.d (.int .u64) x.2.2.2.2.2.2.2.2.2)]]
  hin x := []
  F x := f38 x.1 x.2.1 x.2.2.1 x.2.2.2.1 x.2.2.2.2.1 x.2.2.2.2.2.1 x.2.2.2.2.2.2.1 x.2.2.2.2.2.2.2.1 x.2.2.2.2.2.2.2.2.1 x.2.2.2.2.2.2.2.2.2
  ret y := [.raw true [(.d .bool y.1), (.d (.int .u64) y.2.1), (.d (.int .u64) y.2.2.1), (.d (.int .u64) y.2.2.2.1), (.d (.int .u64) y.2.2.2.2)]]
  hout y := []
  nout := 0
theorem C38_vc (a_Neg : Bool) (a_M_0 : Int) (a_M_1 : Int) (a_M_2 : Int) (a_M_3 : Int) (b_Neg : Bool) (b_M_0 : Int) (b_M_1 : Int) (b_M_2 : Int) (b_M_3 : Int) (y : Bool × Int × Int × Int × Int) (hF : f38 a_Neg a_M_0 a_M_1 a_M_2 a_M_3 b_Neg b_M_0 b_M_1 b_M_2 b_M_3 = some y) : vc Try.prog tab Try.f38.ntmps 0 (match Try.f38.body with | some c => c | none => .skip) (retK tab C38 Try.f38.results.toList y) (C38.shIn (a_Neg, a_M_0, a_M_1, a_M_2, a_M_3, b_Neg, b_M_0, b_M_1, b_M_2, b_M_3)).st := by
  unfold f38 at hF
  refine Or.inl ?_
  refine Or.inl ?_
  refine Or.inl ?_
  refine condI hF (fun hF => ?_) (fun hF => ?_)
  · refine Or.inl ?_
    refine Exists.intro (.take 0 (.take 1 (.take 2 (.take 3 (.take 4 (.take 5 (.alt 6 (.take 7 (.alt 8 .done .done)) .done))))))) (Exists.intro [] (Exists.intro [] (And.intro rfl ?_)))
    refine And.intro trivial ?_
    obtain ⟨q2_6, hq2_6, hF⟩ := bindE hF
    refine Or.inl (And.intro f69_in (callV0 (callI C69 (a_M_0, a_M_1, a_M_2, a_M_3, b_M_0, b_M_1, b_M_2, b_M_3) q2_6 [] false C69_holds hq2_6 rfl rfl ?_)))
    refine (And.intro (fun h => nomatch h) (And.intro rfl (And.intro rfl (And.intro (And.intro rfl (And.intro rfl trivial)) (And.intro trivial ?_)))))
    refine And.intro trivial ?_
    refine Or.inl ?_
    have hy := someE hF
    subst hy
    refine And.intro rfl (Exists.intro [] (Exists.intro [] (Exists.intro [] (Exists.intro [] (Exists.intro [] (And.intro rfl (And.intro (And.intro rfl trivial) trivial)))))))
  · refine Or.inl ?_
    refine Or.inl ?_
    obtain ⟨q2_8, hq2_8, hF⟩ := bindE hF
    refine Or.inl (And.intro f70_in (callV0 (callI C70 (a_M_0, a_M_1, a_M_2, a_M_3, b_M_0, b_M_1, b_M_2, b_M_3) q2_8 [] false C70_holds hq2_8 rfl rfl ?_)))
    refine (And.intro (fun h => nomatch h) (And.intro rfl (And.intro rfl (And.intro (And.intro rfl (And.intro rfl trivial)) (And.intro trivial ?_)))))
    refine condI hF (fun hF => ?_) (fun hF => ?_)
    · refine Or.inl ?_
      refine Exists.intro (.take 0 (.take 1 (.take 2 (.take 3 (.take 4 (.take 5 (.alt 6 (.take 7 (.alt 8 .done .done)) .done))))))) (Exists.intro [] (Exists.intro [] (And.intro rfl ?_)))
      refine And.intro trivial ?_
      obtain ⟨q4_6, hq4_6, hF⟩ := bindE hF
      refine Or.inl (And.intro f71_in (callV0 (callI C71 (b_M_0, b_M_1, b_M_2, b_M_3, a_M_0, a_M_1, a_M_2, a_M_3) q4_6 [] false C71_holds hq4_6 rfl rfl ?_)))
      refine (And.intro (fun h => nomatch h) (And.intro rfl (And.intro rfl (And.intro (And.intro rfl (And.intro rfl trivial)) (And.intro trivial ?_)))))
      refine And.intro trivial ?_
      refine Or.inl ?_
      have hy := someE hF
      subst hy
      refine And.intro rfl (Exists.intro [] (Exists.intro [] (Exists.intro [] (Exists.intro [] (Exists.intro [] (And.intro rfl (And.intro (And.intro rfl trivial) trivial)))))))
    · refine Or.inl ?_
      refine Exists.intro (.take 0 (.take 1 (.take 2 (.take 3 (.take 4 (.take 5 (.alt 6 (.take 7 (.alt 8 .done .done)) .done))))))) (Exists.intro [] (Exists.intro [] (And.intro rfl ?_)))
      refine And.intro trivial ?_
      obtain ⟨q5_6, hq5_6, hF⟩ := bindE hF
      refine Or.inl (And.intro f71_in (callV0 (callI C71 (a_M_0, a_M_1, a_M_2, a_M_3, b_M_0, b_M_1, b_M_2, b_M_3) q5_6 [] false C71_holds hq5_6 rfl rfl ?_)))
      refine (And.intro (fun h => nomatch h) (And.intro rfl (And.intro rfl (And.intro (And.intro rfl (And.intro rfl trivial)) (And.intro trivial ?_)))))
      refine And.intro trivial ?_
      refine Or.inl ?_
      have hy := someE hF
      subst hy
      refine And.intro rfl (Exists.intro [] (Exists.intro [] (Exists.intro [] (Exists.intro [] (Exists.intro [] (And.intro rfl (And.intro (And.intro rfl trivial) trivial)))))))
theorem C38_holds : C38.Holds Try.prog 38 := holds_of_vc tab_ok mixed (fn := Try.f38) (by kernel_rfl) rfl C38 (fun x y hF => C38_vc x.1 x.2.1 x.2.2.1 x.2.2.2.1 x.2.2.2.2.1 x.2.2.2.2.2.1 x.2.2.2.2.2.2.1 x.2.2.2.2.2.2.2.1 x.2.2.2.2.2.2.2.2.1 x.2.2.2.2.2.2.2.2.2 y hF)
theorem f38_in : ∃ fn, Try.prog.funcs[38]? = some fn ∧ fn.body.isSome = true ∧ (fn.name == "runtime.NumGoroutine") = false := ⟨Try.f38, by kernel_rfl, by kernel_rfl, by kernel_rfl⟩
end Go.Proofs
namespace Go.Proofs
open Go.AM
-- carousel/carouselref1.bit
def f73 (m_0 : Int) (m_1 : Int) (m_2 : Int) (m_3 : Int) (i : Int) : Option Int :=
  guardF (0 ≤ (IntKind.i64.wrap (Int.tdiv i (64 : Int))) ∧ (IntKind.i64.wrap (Int.tdiv i (64 : Int))) < (4 : Int)) <|
  pickF (IntKind.i64.wrap (Int.tdiv i (64 : Int)))
    [(guardF (0 ≤ (IntKind.u64.wrap (Int.tmod i (64 : Int)))) <|
      some (bitsOf IntKind.u64 (fun p q => p &&& q) (Int.fdiv m_0 (2 ^ min (Int.toNat (IntKind.u64.wrap (Int.tmod i (64 : Int)))) (IntKind.bits IntKind.u64))) (1 : Int))),
     (guardF (0 ≤ (IntKind.u64.wrap (Int.tmod i (64 : Int)))) <|
      some (bitsOf IntKind.u64 (fun p q => p &&& q) (Int.fdiv m_1 (2 ^ min (Int.toNat (IntKind.u64.wrap (Int.tmod i (64 : Int)))) (IntKind.bits IntKind.u64))) (1 : Int))),
     (guardF (0 ≤ (IntKind.u64.wrap (Int.tmod i (64 : Int)))) <|
      some (bitsOf IntKind.u64 (fun p q => p &&& q) (Int.fdiv m_2 (2 ^ min (Int.toNat (IntKind.u64.wrap (Int.tmod i (64 : Int)))) (IntKind.bits IntKind.u64))) (1 : Int))),
     (guardF (0 ≤ (IntKind.u64.wrap (Int.tmod i (64 : Int)))) <|
      some (bitsOf IntKind.u64 (fun p q => p &&& q) (Int.fdiv m_3 (2 ^ min (Int.toNat (IntKind.u64.wrap (Int.tmod i (64 : Int)))) (IntKind.bits IntKind.u64))) (1 : Int)))]
def C73 : Con where
  X := Int × Int × Int × Int × Int
  Y := Int
  e := 0
  args x := [.raw true [(.d (.int .u64) x.1), (.d (.int .u64) x.2.1), (.d (.int .u64) x.2.2.1), (.d (.int .u64) x.2.2.2.1)], .dat (.int .i64) x.2.2.2.2]
  hin x := []
  F x := f73 x.1 x.2.1 x.2.2.1 x.2.2.2.1 x.2.2.2.2
  ret y := [.dat (.int .u64) y]
  hout y := []
  nout := 0
theorem C73_vc (m_0 : Int) (m_1 : Int) (m_2 : Int) (m_3 : Int) (i : Int) (y : Int) (hF : f73 m_0 m_1 m_2 m_3 i = some y) : vc Try.prog tab Try.f73.ntmps 0 (match Try.f73.body with | some c => c | none => .skip) (retK tab C73 Try.f73.results.toList y) (C73.shIn (m_0, m_1, m_2, m_3, i)).st := by
  unfold f73 at hF
  refine Or.inl ?_
  refine Or.inl ?_
  refine And.intro (by decide) ?_
  refine guardI hF (fun hF => ?_)
  refine And.intro (fun hk1 => ?_) ?_
  · have hF := pickE hF hk1
    dsimp only [nthO] at hF
    refine And.intro (by decide) ?_
    refine guardI hF (fun hF => ?_)
    have hy := someE hF
    subst hy
    refine And.intro rfl (Exists.intro [] (Exists.intro [] (Exists.intro [] (Exists.intro [] (Exists.intro [] (And.intro rfl (And.intro rfl (And.intro trivial trivial))))))))
  refine And.intro (fun hk1 => ?_) ?_
  · have hF := pickE hF hk1
    dsimp only [nthO] at hF
    refine And.intro (by decide) ?_
    refine guardI hF (fun hF => ?_)
    have hy := someE hF
    subst hy
    refine And.intro rfl (Exists.intro [] (Exists.intro [] (Exists.intro [] (Exists.intro [] (Exists.intro [] (And.intro rfl (And.intro rfl (And.intro trivial trivial))))))))
  refine And.intro (fun hk1 => ?_) ?_
  · have hF := pickE hF hk1
    dsimp only [nthO] at hF
    refine And.intro (by decide) ?_
    refine guardI hF (fun hF => ?_)
    have hy := someE hF
    subst hy
    refine And.intro rfl (Exists.intro [] (Exists.intro [] (Exists.intro [] (Exists.intro [] (Exists.intro [] (And.intro rfl (And.intro rfl (And.intro trivial trivial))))))))
  refine And.intro (fun hk1 => ?_) trivial
  have hF := pickE hF hk1
  dsimp only [nthO] at hF
  refine And.intro (by decide) ?_
  refine guardI hF (fun hF => ?_)
  have hy := someE hF
  subst hy
  refine And.intro rfl (Exists.intro [] (Exists.intro [] (Exists.intro [] (Exists.intro [] (Exists.intro [] (And.intro rfl (And.intro rfl (And.intro trivial trivial))))))))
theorem C73_holds : C73.Holds Try.prog 73 := holds_of_vc tab_ok mixed (fn := Try.f73) (by kernel_rfl) rfl C73 (fun x y hF => C73_vc x.1 x.2.1 x.2.2.1 x.2.2.2.1 x.2.2.2.2 y hF)
theorem f73_in : ∃ fn, Try.prog.funcs[73]? = some fn ∧ fn.body.isSome = true ∧ (fn.name == "runtime.NumGoroutine") = false := ⟨Try.f73, by kernel_rfl, by kernel_rfl, by kernel_rfl⟩
end Go.Proofs
namespace Go.Proofs
open Go.AM
-- carousel/carouselref1.Halved
def f41_l1 (a_M_0 : Int) (a_M_1 : Int) (a_M_2 : Int) (a_M_3 : Int) (n : Int) (go : (Int × Int × Int × Int × Int) → Option (Int × Int × Int × Int)) (i : Int) (c2_1 : Int) (c2_2 : Int) (c2_3 : Int) (c2_4 : Int) : Option (Int × Int × Int × Int) :=
  bif (decide (i < (256 : Int))) then
    bindF (f73 a_M_0 a_M_1 a_M_2 a_M_3 i) fun r6 =>
    bif (r6 == (1 : Int)) then
      guardF (0 ≤ (IntKind.i64.wrap (Int.tdiv (IntKind.i64.wrap (i - n)) (64 : Int))) ∧ (IntKind.i64.wrap (Int.tdiv (IntKind.i64.wrap (i - n)) (64 : Int))) < (4 : Int)) <|
      pickF (IntKind.i64.wrap (Int.tdiv (IntKind.i64.wrap (i - n)) (64 : Int)))
        [(guardF (0 ≤ (IntKind.u64.wrap (Int.tmod (IntKind.i64.wrap (i - n)) (64 : Int)))) <|
          go ((IntKind.i64.wrap (i + (1 : Int))), (bitsOf IntKind.u64 (fun p q => p ||| q) c2_1 (IntKind.u64.wrap ((1 : Int) * 2 ^ min (Int.toNat (IntKind.u64.wrap (Int.tmod (IntKind.i64.wrap (i - n)) (64 : Int)))) (IntKind.bits IntKind.u64)))), c2_2, c2_3, c2_4)),
         (guardF (0 ≤ (IntKind.u64.wrap (Int.tmod (IntKind.i64.wrap (i - n)) (64 : Int)))) <|
          go ((IntKind.i64.wrap (i + (1 : Int))), c2_1, (bitsOf IntKind.u64 (fun p q => p ||| q) c2_2 (IntKind.u64.wrap ((1 : Int) * 2 ^ min (Int.toNat (IntKind.u64.wrap (Int.tmod (IntKind.i64.wrap (i - n)) (64 : Int)))) (IntKind.bits IntKind.u64)))), c2_3, c2_4)),
         (guardF (0 ≤ (IntKind.u64.wrap (Int.tmod (IntKind.i64.wrap (i - n)) (64 : Int)))) <|
          go ((IntKind.i64.wrap (i + (1 : Int))), c2_1, c2_2, (bitsOf IntKind.u64 (fun p q => p ||| q) c2_3 (IntKind.u64.wrap ((1 : Int) * 2 ^ min (Int.toNat (IntKind.u64.wrap (Int.tmod (IntKind.i64.wrap (i - n)) (64 : Int)))) (IntKind.bits IntKind.u64)))), c2_4)),
         (guardF (0 ≤ (IntKind.u64.wrap (Int.tmod (IntKind.i64.wrap (i - n)) (64 : Int)))) <|
          go ((IntKind.i64.wrap (i + (1 : Int))), c2_1, c2_2, c2_3, (bitsOf IntKind.u64 (fun p q => p ||| q) c2_4 (IntKind.u64.wrap ((1 : Int) * 2 ^ min (Int.toNat (IntKind.u64.wrap (Int.tmod (IntKind.i64.wrap (i - n)) (64 : Int)))) (IntKind.bits IntKind.u64))))))]
    else
      go ((IntKind.i64.wrap (i + (1 : Int))), c2_1, c2_2, c2_3, c2_4)
  else
    some (c2_1, c2_2, c2_3, c2_4)
def f41_j2 (a_M_0 : Int) (a_M_1 : Int) (a_M_2 : Int) (a_M_3 : Int) (n : Int) : Option (Sum Unit Unit) :=
  bif (n == (0 : Int)) then
    some (Sum.inr ())
  else
    bindF (f73 a_M_0 a_M_1 a_M_2 a_M_3 (IntKind.i64.wrap (n - (1 : Int)))) fun r10 =>
    bif (r10 == (0 : Int)) then
      some (Sum.inr ())
    else
      some (Sum.inl ())
def f41_l3 (a_M_0 : Int) (a_M_1 : Int) (a_M_2 : Int) (a_M_3 : Int) (n : Int) (go : (Bool × Int) → Option Bool) (more : Bool) (i : Int) : Option Bool :=
  bif (decide (i < (IntKind.i64.wrap (n - (1 : Int))))) then
    bif more then
      go (true, (IntKind.i64.wrap (i + (1 : Int))))
    else
      bindF (f73 a_M_0 a_M_1 a_M_2 a_M_3 i) fun r14 =>
      go ((r14 == (1 : Int)), (IntKind.i64.wrap (i + (1 : Int))))
  else
    some more
def f41 (a_Neg : Bool) (a_M_0 : Int) (a_M_1 : Int) (a_M_2 : Int) (a_M_3 : Int) (n : Int) : Option (Bool × Int × Int × Int × Int) :=
  bindF (loopF (fun go x => f41_l1 a_M_0 a_M_1 a_M_2 a_M_3 n go x.1 x.2.1 x.2.2.1 x.2.2.2.1 x.2.2.2.2) fuelN (n, (0 : Int), (0 : Int), (0 : Int), (0 : Int))) fun z5 =>
  bindF (f41_j2 a_M_0 a_M_1 a_M_2 a_M_3 n) fun z9 =>
  sumF z9 (fun z9a =>
    bindF (loopF (fun go x => f41_l3 a_M_0 a_M_1 a_M_2 a_M_3 n go x.1 x.2) fuelN (((bitsOf IntKind.u64 (fun p q => p &&& q) z5.1 (1 : Int)) == (1 : Int)), (0 : Int))) fun z13 =>
    bif z13 then
      bindF (f69 z5.1 z5.2.1 z5.2.2.1 z5.2.2.2 (1 : Int) (0 : Int) (0 : Int) (0 : Int)) fun r15 =>
      some (a_Neg, r15.1, r15.2.1, r15.2.2.1, r15.2.2.2)
    else
      some (a_Neg, z5.1, z5.2.1, z5.2.2.1, z5.2.2.2)) (fun z9b =>
    some (a_Neg, z5.1, z5.2.1, z5.2.2.1, z5.2.2.2))
def C41 : Con where
  X := Bool × Int × Int × Int × Int × Int
  Y := Bool × Int × Int × Int × Int
  e := 0
  args x := [.raw true [(.d .bool x.1), (.d (.int .u64) x.2.1), (.d (.int .u64) x.2.2.1), (.d (.int .u64) x.2.2.2.1), (.d (.int .u64) x.2.2.2.2.1)], .dat (.int .i64) x.2.2.2.2.2]
  hin x := []
  F x := f41 x.1 x.2.1 x.2.2.1 x.2.2.2.1 x.2.2.2.2.1 x.2.2.2.2.2
  ret y := [.raw true [(.d .bool y.1), (.d (.int .u64) y.2.1), (.d (.int .u64) y.2.2.1), (.d (.int .u64) y.2.2.2.1), (.d (.int .u64) y.2.2.2.2)]]
  hout y := []
  nout := 0
theorem C41_vc (a_Neg : Bool) (a_M_0 : Int) (a_M_1 : Int) (a_M_2 : Int) (a_M_3 : Int) (n : Int) (y : Bool × Int × Int × Int × Int) (hF : f41 a_Neg a_M_0 a_M_1 a_M_2 a_M_3 n = some y) : vc Try.prog tab Try.f41.ntmps 0 (match Try.f41.body with | some c => c | none => .skip) (retK tab C41 Try.f41.results.toList y) (C41.shIn (a_Neg, a_M_0, a_M_1, a_M_2, a_M_3, n)).st := by
  unfold f41 at hF
  refine Or.inl ?_
  refine Or.inl ?_
  refine Or.inl ?_
  refine Or.inl ?_
  refine Or.inl ?_
  obtain ⟨z5, hz5, hF⟩ := bindE hF
  refine loopI (Int × Int × Int × Int × Int) (Int × Int × Int × Int) (fun x => ⟨[(1, .dat (.int .i64) n), (2, .raw false [(.ptr 0 0)]), (4, .raw false [(.ptr 1 0)]), (5, .raw false [(.ptr 2 0)]), (6, .dat (.int .i64) x.1)], [(0, .cells [(.d .bool a_Neg), (.d (.int .u64) a_M_0), (.d (.int .u64) a_M_1), (.d (.int .u64) a_M_2), (.d (.int .u64) a_M_3)]), (1, .cells [(.d .bool false), (.d (.int .u64) (0 : Int)), (.d (.int .u64) (0 : Int)), (.d (.int .u64) (0 : Int)), (.d (.int .u64) (0 : Int))]), (2, .cells [(.d .bool a_Neg), (.d (.int .u64) x.2.1), (.d (.int .u64) x.2.2.1), (.d (.int .u64) x.2.2.2.1), (.d (.int .u64) x.2.2.2.2)])], 3⟩) (fun z => [(2, ⟨[(1, .dat (.int .i64) n), (2, .raw false [(.ptr 0 0)]), (4, .raw false [(.ptr 1 0)]), (5, .raw false [(.ptr 2 0)])], [(0, .cells [(.d .bool a_Neg), (.d (.int .u64) a_M_0), (.d (.int .u64) a_M_1), (.d (.int .u64) a_M_2), (.d (.int .u64) a_M_3)]), (1, .cells [(.d .bool false), (.d (.int .u64) (0 : Int)), (.d (.int .u64) (0 : Int)), (.d (.int .u64) (0 : Int)), (.d (.int .u64) (0 : Int))]), (2, .cells [(.d .bool a_Neg), (.d (.int .u64) z.1), (.d (.int .u64) z.2.1), (.d (.int .u64) z.2.2.1), (.d (.int .u64) z.2.2.2)])], 3⟩)]) (loopF (fun go x => f41_l1 a_M_0 a_M_1 a_M_2 a_M_3 n go x.1 x.2.1 x.2.2.1 x.2.2.2.1 x.2.2.2.2)) fuelN (n, (0 : Int), (0 : Int), (0 : Int), (0 : Int)) z5 (And.intro hz5 (And.intro (Exists.intro [] (Exists.intro [] (Exists.intro [] (Exists.intro [] (Exists.intro [(0, some 0), (1, some 1), (2, some 2)] (And.intro rfl (And.intro rfl (And.intro rfl (And.intro (And.intro rfl (And.intro rfl (And.intro rfl trivial))) (And.intro rfl (And.intro rfl (And.intro rfl trivial)))))))))))) (And.intro (fun _ _ h => loopZ h) (And.intro (fun m => curI (fun i => curI (fun c2_1 => curI (fun c2_2 => curI (fun c2_3 => fun c2_4 z hF => ?_))))) ?_))))
  · have hF : f41_l1 a_M_0 a_M_1 a_M_2 a_M_3 n (loopF (fun go x => f41_l1 a_M_0 a_M_1 a_M_2 a_M_3 n go x.1 x.2.1 x.2.2.1 x.2.2.2.1 x.2.2.2.2) m) i c2_1 c2_2 c2_3 c2_4 = some z := hF
    unfold f41_l1 at hF
    refine Or.inl ?_
    refine Or.inl ?_
    refine condI hF (fun hF => ?_) (fun hF => ?_)
    · refine Or.inl ?_
      refine Or.inl ?_
      obtain ⟨r6, hr6, hF⟩ := bindE hF
      refine Or.inl (And.intro f73_in (callV0 (callI C73 (a_M_0, a_M_1, a_M_2, a_M_3, i) r6 [] false C73_holds hr6 rfl rfl ?_)))
      refine (And.intro rfl (And.intro (fun h => nomatch h) (And.intro rfl (And.intro rfl (And.intro (And.intro rfl trivial) (And.intro trivial ?_))))))
      refine condI hF (fun hF => ?_) (fun hF => ?_)
      · refine And.intro (by decide) ?_
        refine And.intro (by decide) ?_
        refine guardI hF (fun hF => ?_)
        refine And.intro (fun hk7 => ?_) ?_
        · have hF := pickE hF hk7
          dsimp only [nthO] at hF
          refine And.intro (by decide) ?_
          refine guardI hF (fun hF => ?_)
          refine And.intro (rangeE hk7 (by decide)) ?_
          refine And.intro (fun _ => ?_) (And.intro (fun h => absurd (hk7.symm.trans h) (by decide)) (And.intro (fun h => absurd (hk7.symm.trans h) (by decide)) (And.intro (fun h => absurd (hk7.symm.trans h) (by decide)) trivial)))
          refine Or.inl ?_
          refine Exists.intro ((IntKind.i64.wrap (i + (1 : Int))), (bitsOf IntKind.u64 (fun p q => p ||| q) c2_1 (IntKind.u64.wrap ((1 : Int) * 2 ^ min (Int.toNat (IntKind.u64.wrap (Int.tmod (IntKind.i64.wrap (i - n)) (64 : Int)))) (IntKind.bits IntKind.u64)))), c2_2, c2_3, c2_4) (And.intro hF (Exists.intro [] (Exists.intro [] (Exists.intro [] (Exists.intro [] (Exists.intro [(0, some 0), (1, some 1), (2, some 2)] (And.intro rfl (And.intro rfl (And.intro rfl (And.intro (And.intro rfl (And.intro rfl (And.intro rfl trivial))) (And.intro rfl (And.intro rfl (And.intro rfl trivial)))))))))))))
        refine And.intro (fun hk7 => ?_) ?_
        · have hF := pickE hF hk7
          dsimp only [nthO] at hF
          refine And.intro (by decide) ?_
          refine guardI hF (fun hF => ?_)
          refine And.intro (rangeE hk7 (by decide)) ?_
          refine And.intro (fun h => absurd (hk7.symm.trans h) (by decide)) ?_
          refine And.intro (fun _ => ?_) (And.intro (fun h => absurd (hk7.symm.trans h) (by decide)) (And.intro (fun h => absurd (hk7.symm.trans h) (by decide)) trivial))
          refine Or.inl ?_
          refine Exists.intro ((IntKind.i64.wrap (i + (1 : Int))), c2_1, (bitsOf IntKind.u64 (fun p q => p ||| q) c2_2 (IntKind.u64.wrap ((1 : Int) * 2 ^ min (Int.toNat (IntKind.u64.wrap (Int.tmod (IntKind.i64.wrap (i - n)) (64 : Int)))) (IntKind.bits IntKind.u64)))), c2_3, c2_4) (And.intro hF (Exists.intro [] (Exists.intro [] (Exists.intro [] (Exists.intro [] (Exists.intro [(0, some 0), (1, some 1), (2, some 2)] (And.intro rfl (And.intro rfl (And.intro rfl (And.intro (And.intro rfl (And.intro rfl (And.intro rfl trivial))) (And.intro rfl (And.intro rfl (And.intro rfl trivial)))))))))))))
        refine And.intro (fun hk7 => ?_) ?_
        · have hF := pickE hF hk7
          dsimp only [nthO] at hF
          refine And.intro (by decide) ?_
          refine guardI hF (fun hF => ?_)
          refine And.intro (rangeE hk7 (by decide)) ?_
          refine And.intro (fun h => absurd (hk7.symm.trans h) (by decide)) ?_
          refine And.intro (fun h => absurd (hk7.symm.trans h) (by decide)) ?_
          refine And.intro (fun _ => ?_) (And.intro (fun h => absurd (hk7.symm.trans h) (by decide)) trivial)
          refine Or.inl ?_
          refine Exists.intro ((IntKind.i64.wrap (i + (1 : Int))), c2_1, c2_2, (bitsOf IntKind.u64 (fun p q => p ||| q) c2_3 (IntKind.u64.wrap ((1 : Int) * 2 ^ min (Int.toNat (IntKind.u64.wrap (Int.tmod (IntKind.i64.wrap (i - n)) (64 : Int)))) (IntKind.bits IntKind.u64)))), c2_4) (And.intro hF (Exists.intro [] (Exists.intro [] (Exists.intro [] (Exists.intro [] (Exists.intro [(0, some 0), (1, some 1), (2, some 2)] (And.intro rfl (And.intro rfl (And.intro rfl (And.intro (And.intro rfl (And.intro rfl (And.intro rfl trivial))) (And.intro rfl (And.intro rfl (And.intro rfl trivial)))))))))))))
        refine And.intro (fun hk7 => ?_) trivial
        have hF := pickE hF hk7
        dsimp only [nthO] at hF
        refine And.intro (by decide) ?_
        refine guardI hF (fun hF => ?_)
        refine And.intro (rangeE hk7 (by decide)) ?_
        refine And.intro (fun h => absurd (hk7.symm.trans h) (by decide)) ?_
        refine And.intro (fun h => absurd (hk7.symm.trans h) (by decide)) ?_
        refine And.intro (fun h => absurd (hk7.symm.trans h) (by decide)) ?_
        refine And.intro (fun _ => ?_) trivial
        refine Or.inl ?_
        refine Exists.intro ((IntKind.i64.wrap (i + (1 : Int))), c2_1, c2_2, c2_3, (bitsOf IntKind.u64 (fun p q => p ||| q) c2_4 (IntKind.u64.wrap ((1 : Int) * 2 ^ min (Int.toNat (IntKind.u64.wrap (Int.tmod (IntKind.i64.wrap (i - n)) (64 : Int)))) (IntKind.bits IntKind.u64))))) (And.intro hF (Exists.intro [] (Exists.intro [] (Exists.intro [] (Exists.intro [] (Exists.intro [(0, some 0), (1, some 1), (2, some 2)] (And.intro rfl (And.intro rfl (And.intro rfl (And.intro (And.intro rfl (And.intro rfl (And.intro rfl trivial))) (And.intro rfl (And.intro rfl (And.intro rfl trivial)))))))))))))
      · refine Exists.intro ((IntKind.i64.wrap (i + (1 : Int))), c2_1, c2_2, c2_3, c2_4) (And.intro hF (Exists.intro [] (Exists.intro [] (Exists.intro [] (Exists.intro [] (Exists.intro [(0, some 0), (1, some 1), (2, some 2)] (And.intro rfl (And.intro rfl (And.intro rfl (And.intro (And.intro rfl (And.intro rfl (And.intro rfl trivial))) (And.intro rfl (And.intro rfl (And.intro rfl trivial)))))))))))))
    · have hz := someE hF
      subst hz
      refine Exists.intro [] (Exists.intro [] (Exists.intro [] (Exists.intro [] (Exists.intro [(0, some 0), (1, some 1), (2, some 2)] (And.intro rfl (And.intro rfl (And.intro (And.intro rfl (And.intro rfl (And.intro rfl trivial))) (And.intro rfl (And.intro rfl (And.intro rfl trivial))))))))))
  · refine And.intro ?_ trivial
    obtain ⟨z9, hz9, hF⟩ := bindE hF
    refine Or.inr ⟨Sum.elim (fun z9a => [(0, ⟨[(1, .dat (.int .i64) n), (2, .raw false [(.ptr 0 0)]), (4, .raw false [(.ptr 1 0)]), (5, .raw false [(.ptr 2 0)])], [(0, .cells [(.d .bool a_Neg), (.d (.int .u64) a_M_0), (.d (.int .u64) a_M_1), (.d (.int .u64) a_M_2), (.d (.int .u64) a_M_3)]), (1, .cells [(.d .bool false), (.d (.int .u64) (0 : Int)), (.d (.int .u64) (0 : Int)), (.d (.int .u64) (0 : Int)), (.d (.int .u64) (0 : Int))]), (2, .cells [(.d .bool a_Neg), (.d (.int .u64) z5.1), (.d (.int .u64) z5.2.1), (.d (.int .u64) z5.2.2.1), (.d (.int .u64) z5.2.2.2)])], 3⟩)]) (fun z9b => [(1, ⟨[(4, .raw false [(.ptr 0 0)])], [(0, .cells [(.d .bool a_Neg), (.d (.int .u64) z5.1), (.d (.int .u64) z5.2.1), (.d (.int .u64) z5.2.2.1), (.d (.int .u64) z5.2.2.2)])], 1⟩)]) z9, ?_, ?_⟩
    · have hF := hz9
      clear hz9
      unfold f41_j2 at hF
      refine Or.inl ?_
      refine condN hF (fun hF => ?_) (fun hF => ?_)
      · refine gdYF ?_
        refine gdYF ?_
        refine gdYF ?_
        refine gdYF ?_
        obtain ⟨r10, hr10, hF⟩ := bindE hF
        refine Or.inl (And.intro f73_in (callV0 (callI C73 (a_M_0, a_M_1, a_M_2, a_M_3, (IntKind.i64.wrap (n - (1 : Int)))) r10 [] false C73_holds hr10 rfl rfl ?_)))
        refine (And.intro rfl (And.intro (fun h => nomatch h) (And.intro rfl (And.intro rfl (And.intro (And.intro rfl trivial) (And.intro trivial ?_))))))
        refine gdYF ?_
        refine condF ?_
        refine condI hF (fun hF => ?_) (fun hF => ?_)
        · refine Or.inl ?_
          refine Or.inl ?_
          have hz := someE hF
          subst hz
          refine Exists.intro [] (Exists.intro [] (Exists.intro [] (Exists.intro [] (Exists.intro [(0, some 1)] (And.intro rfl (And.intro (And.intro rfl trivial) (And.intro rfl trivial)))))))
        · have hz := someE hF
          subst hz
          refine Exists.intro [] (Exists.intro [] (Exists.intro [] (Exists.intro [] (Exists.intro [(0, some 0), (1, some 1), (2, some 2)] (And.intro rfl (And.intro rfl (And.intro (And.intro rfl (And.intro rfl (And.intro rfl trivial))) (And.intro rfl (And.intro rfl (And.intro rfl trivial))))))))))
      · refine gdNF ?_
        refine gdNF ?_
        refine gdNF ?_
        refine gdNF ?_
        refine gdNF ?_
        refine condT ?_
        refine condT ?_
        refine Or.inl ?_
        refine Or.inl ?_
        have hz := someE hF
        subst hz
        refine Exists.intro [] (Exists.intro [] (Exists.intro [] (Exists.intro [] (Exists.intro [(0, some 1)] (And.intro rfl (And.intro (And.intro rfl trivial) (And.intro rfl trivial)))))))
    · rcases z9 with z9a | z9b
      · dsimp only [sumF] at hF
        refine And.intro ?_ trivial
        refine Or.inl ?_
        refine And.intro (by decide) ?_
        refine And.intro (fun _ => ?_) (And.intro (fun h => absurd h (by decide)) (And.intro (fun h => absurd h (by decide)) (And.intro (fun h => absurd h (by decide)) trivial)))
        refine Or.inl ?_
        refine Or.inl ?_
        obtain ⟨z13, hz13, hF⟩ := bindE hF
        refine loopI (Bool × Int) Bool (fun x => ⟨[(1, .dat (.int .i64) n), (2, .raw false [(.ptr 0 0)]), (4, .raw false [(.ptr 1 0)]), (5, .raw false [(.ptr 2 0)]), (7, .dat .bool x.1), (8, .dat (.int .i64) x.2)], [(0, .cells [(.d .bool a_Neg), (.d (.int .u64) a_M_0), (.d (.int .u64) a_M_1), (.d (.int .u64) a_M_2), (.d (.int .u64) a_M_3)]), (1, .cells [(.d .bool false), (.d (.int .u64) (0 : Int)), (.d (.int .u64) (0 : Int)), (.d (.int .u64) (0 : Int)), (.d (.int .u64) (0 : Int))]), (2, .cells [(.d .bool a_Neg), (.d (.int .u64) z5.1), (.d (.int .u64) z5.2.1), (.d (.int .u64) z5.2.2.1), (.d (.int .u64) z5.2.2.2)])], 3⟩) (fun z => [(4, ⟨[(4, .raw false [(.ptr 0 0)]), (5, .raw false [(.ptr 1 0)]), (7, .dat .bool z)], [(0, .cells [(.d .bool false), (.d (.int .u64) (0 : Int)), (.d (.int .u64) (0 : Int)), (.d (.int .u64) (0 : Int)), (.d (.int .u64) (0 : Int))]), (1, .cells [(.d .bool a_Neg), (.d (.int .u64) z5.1), (.d (.int .u64) z5.2.1), (.d (.int .u64) z5.2.2.1), (.d (.int .u64) z5.2.2.2)])], 2⟩)]) (loopF (fun go x => f41_l3 a_M_0 a_M_1 a_M_2 a_M_3 n go x.1 x.2)) fuelN (((bitsOf IntKind.u64 (fun p q => p &&& q) z5.1 (1 : Int)) == (1 : Int)), (0 : Int)) z13 (And.intro hz13 (And.intro (Exists.intro [] (Exists.intro [] (Exists.intro [] (Exists.intro [] (Exists.intro [(0, some 0), (1, some 1), (2, some 2)] (And.intro rfl (And.intro rfl (And.intro rfl (And.intro rfl (And.intro (And.intro rfl (And.intro rfl (And.intro rfl trivial))) (And.intro rfl (And.intro rfl (And.intro rfl trivial))))))))))))) (And.intro (fun _ _ h => loopZ h) (And.intro (fun m => curI (fun more => fun i z hF => ?_)) ?_))))
        · have hF : f41_l3 a_M_0 a_M_1 a_M_2 a_M_3 n (loopF (fun go x => f41_l3 a_M_0 a_M_1 a_M_2 a_M_3 n go x.1 x.2) m) more i = some z := hF
          unfold f41_l3 at hF
          refine Or.inl ?_
          refine Or.inl ?_
          refine condI hF (fun hF => ?_) (fun hF => ?_)
          · refine Or.inl ?_
            refine condN hF (fun hF => ?_) (fun hF => ?_)
            · refine gdYF ?_
              refine gdYF ?_
              refine gdYF ?_
              obtain ⟨r14, hr14, hF⟩ := bindE hF
              refine Or.inl (And.intro f73_in (callV0 (callI C73 (a_M_0, a_M_1, a_M_2, a_M_3, i) r14 [] false C73_holds hr14 rfl rfl ?_)))
              refine (And.intro rfl (And.intro (fun h => nomatch h) (And.intro rfl (And.intro rfl (And.intro (And.intro rfl trivial) (And.intro trivial ?_))))))
              refine gdYF ?_
              refine condF ?_
              refine Exists.intro ((r14 == (1 : Int)), (IntKind.i64.wrap (i + (1 : Int)))) (And.intro hF (Exists.intro [] (Exists.intro [] (Exists.intro [] (Exists.intro [] (Exists.intro [(0, some 0), (1, some 1), (2, some 2)] (And.intro rfl (And.intro rfl (And.intro rfl (And.intro rfl (And.intro (And.intro rfl (And.intro rfl (And.intro rfl trivial))) (And.intro rfl (And.intro rfl (And.intro rfl trivial))))))))))))))
            · refine gdNF ?_
              refine gdNF ?_
              refine gdNF ?_
              refine gdNF ?_
              refine condT ?_
              refine Exists.intro (true, (IntKind.i64.wrap (i + (1 : Int)))) (And.intro hF (Exists.intro [] (Exists.intro [] (Exists.intro [] (Exists.intro [] (Exists.intro [(0, some 0), (1, some 1), (2, some 2)] (And.intro rfl (And.intro rfl (And.intro rfl (And.intro rfl (And.intro (And.intro rfl (And.intro rfl (And.intro rfl trivial))) (And.intro rfl (And.intro rfl (And.intro rfl trivial))))))))))))))
          · have hz := someE hF
            subst hz
            refine Exists.intro [] (Exists.intro [] (Exists.intro [] (Exists.intro [] (Exists.intro [(0, some 1), (1, some 2)] (And.intro rfl (And.intro rfl (And.intro (And.intro rfl (And.intro rfl trivial)) (And.intro rfl (And.intro rfl trivial)))))))))
        · refine And.intro ?_ trivial
          refine Or.inl ?_
          refine Or.inl ?_
          refine condI hF (fun hF => ?_) (fun hF => ?_)
          · obtain ⟨r15, hr15, hF⟩ := bindE hF
            refine Or.inl (And.intro f69_in (callV0 (callI C69 (z5.1, z5.2.1, z5.2.2.1, z5.2.2.2, (1 : Int), (0 : Int), (0 : Int), (0 : Int)) r15 [] false C69_holds hr15 rfl rfl ?_)))
            refine (And.intro (fun h => nomatch h) (And.intro rfl (And.intro rfl (And.intro (And.intro rfl (And.intro rfl trivial)) (And.intro trivial ?_)))))
            refine Or.inl ?_
            refine Or.inl ?_
            refine Or.inl ?_
            have hy := someE hF
            subst hy
            refine And.intro rfl (Exists.intro [] (Exists.intro [] (Exists.intro [] (Exists.intro [] (Exists.intro [] (And.intro rfl (And.intro (And.intro rfl trivial) trivial)))))))
          · refine Or.inl ?_
            refine Or.inl ?_
            have hy := someE hF
            subst hy
            refine And.intro rfl (Exists.intro [] (Exists.intro [] (Exists.intro [] (Exists.intro [] (Exists.intro [] (And.intro rfl (And.intro (And.intro rfl trivial) trivial)))))))
      · dsimp only [sumF] at hF
        refine And.intro ?_ trivial
        have hy := someE hF
        subst hy
        refine And.intro rfl (Exists.intro [] (Exists.intro [] (Exists.intro [] (Exists.intro [] (Exists.intro [] (And.intro rfl (And.intro (And.intro rfl trivial) trivial)))))))
theorem C41_holds : C41.Holds Try.prog 41 := holds_of_vc tab_ok mixed (fn := Try.f41) (by kernel_rfl) rfl C41 (fun x y hF => C41_vc x.1 x.2.1 x.2.2.1 x.2.2.2.1 x.2.2.2.2.1 x.2.2.2.2.2 y hF)
theorem f41_in : ∃ fn, Try.prog.funcs[41]? = some fn ∧ fn.body.isSome = true ∧ (fn.name == "runtime.NumGoroutine") = false := ⟨Try.f41, by kernel_rfl, by kernel_rfl, by kernel_rfl⟩
end Go.Proofs
namespace Go.Proofs
open Go.AM
-- carousel/carouselref1.Held
def f40_j3 (a_M_0 : Int) (a_M_1 : Int) (a_M_2 : Int) (a_M_3 : Int) : Option Bool :=
  bif ((bitsOf IntKind.u64 (fun p q => p ||| q) (bitsOf IntKind.u64 (fun p q => p ||| q) a_M_1 a_M_2) a_M_3) != (0 : Int)) then
    some true
  else
    some (decide (a_M_0 ≥ (9223372036854775808 : Int)))
def f40_j2 (a_Neg : Bool) (a_M_0 : Int) (a_M_1 : Int) (a_M_2 : Int) (a_M_3 : Int) : Option (Sum Unit Int) :=
  bindF (f40_j3 a_M_0 a_M_1 a_M_2 a_M_3) fun z3 =>
  bif z3 then
    bif a_Neg then
      some (Sum.inr (-9223372036854775808 : Int))
    else
      some (Sum.inr (9223372036854775807 : Int))
  else
    some (Sum.inl ())
def f40 (a_Neg : Bool) (a_M_0 : Int) (a_M_1 : Int) (a_M_2 : Int) (a_M_3 : Int) : Option Int :=
  bindF (f40_j2 a_Neg a_M_0 a_M_1 a_M_2 a_M_3) fun z2 =>
  sumF z2 (fun z2a =>
    bif a_Neg then
      some (IntKind.i64.wrap (0 - (IntKind.i64.wrap a_M_0)))
    else
      some (IntKind.i64.wrap a_M_0)) (fun z2b =>
    some z2b)
def C40 : Con where
  X := Bool × Int × Int × Int × Int
  Y := Int
  e := 0
  args x := [.raw true [(.d .bool x.1), (.d (.int .u64) x.2.1), (.d (.int .u64) x.2.2.1), (.d (.int .u64) x.2.2.2.1), (.d (.int .u64) x.2.2.2.2)]]
  hin x := []
  F x := f40 x.1 x.2.1 x.2.2.1 x.2.2.2.1 x.2.2.2.2
  ret y := [.dat (.int .i64) y]
  hout y := []
  nout := 0
theorem C40_vc (a_Neg : Bool) (a_M_0 : Int) (a_M_1 : Int) (a_M_2 : Int) (a_M_3 : Int) (y : Int) (hF : f40 a_Neg a_M_0 a_M_1 a_M_2 a_M_3 = some y) : vc Try.prog tab Try.f40.ntmps 0 (match Try.f40.body with | some c => c | none => .skip) (retK tab C40 Try.f40.results.toList y) (C40.shIn (a_Neg, a_M_0, a_M_1, a_M_2, a_M_3)).st := by
  unfold f40 at hF
  refine Or.inl ?_
  obtain ⟨z2, hz2, hF⟩ := bindE hF
  refine Or.inr ⟨Sum.elim (fun z2a => [(0, ⟨[(1, .raw false [(.ptr 0 0)])], [(0, .cells [(.d .bool a_Neg), (.d (.int .u64) a_M_0), (.d (.int .u64) a_M_1), (.d (.int .u64) a_M_2), (.d (.int .u64) a_M_3)])], 1⟩)]) (fun z2b => [(1, ⟨[(2, .dat (.int .i64) z2b)], [], 0⟩)]) z2, ?_, ?_⟩
  · have hF := hz2
    clear hz2
    unfold f40_j2 at hF
    obtain ⟨z3, hz3, hF⟩ := bindE hF
    refine Or.inr ⟨[(0, ⟨[(1, .raw false [(.ptr 0 0)]), (20, .dat .bool z3)], [(0, .cells [(.d .bool a_Neg), (.d (.int .u64) a_M_0), (.d (.int .u64) a_M_1), (.d (.int .u64) a_M_2), (.d (.int .u64) a_M_3)])], 1⟩)], ?_, ?_⟩
    · have hF := hz3
      clear hz3
      unfold f40_j3 at hF
      refine And.intro (by decide) ?_
      refine And.intro (fun h => absurd h (by decide)) ?_
      refine And.intro (fun _ => ?_) (And.intro (fun h => absurd h (by decide)) (And.intro (fun h => absurd h (by decide)) trivial))
      refine And.intro (by decide) ?_
      refine And.intro (fun h => absurd h (by decide)) ?_
      refine And.intro (fun h => absurd h (by decide)) ?_
      refine And.intro (fun _ => ?_) (And.intro (fun h => absurd h (by decide)) trivial)
      refine And.intro (by decide) ?_
      refine And.intro (fun h => absurd h (by decide)) ?_
      refine And.intro (fun h => absurd h (by decide)) ?_
      refine And.intro (fun h => absurd h (by decide)) ?_
      refine And.intro (fun _ => ?_) trivial
      refine condN hF (fun hF => ?_) (fun hF => ?_)
      · refine gdYF ?_
        refine And.intro (by decide) ?_
        refine And.intro (fun _ => ?_) (And.intro (fun h => absurd h (by decide)) (And.intro (fun h => absurd h (by decide)) (And.intro (fun h => absurd h (by decide)) trivial)))
        refine gdYF ?_
        refine gdYF ?_
        refine condF ?_
        have hz := someE hF
        subst hz
        refine Exists.intro [] (Exists.intro [] (Exists.intro [] (Exists.intro [] (Exists.intro [(0, some 0)] (And.intro rfl (And.intro rfl (And.intro (And.intro rfl trivial) (And.intro rfl trivial))))))))
      · refine gdNF ?_
        refine gdNF ?_
        refine gdNF ?_
        refine condT ?_
        have hz := someE hF
        subst hz
        refine Exists.intro [] (Exists.intro [] (Exists.intro [] (Exists.intro [] (Exists.intro [(0, some 0)] (And.intro rfl (And.intro rfl (And.intro (And.intro rfl trivial) (And.intro rfl trivial))))))))
    · refine And.intro ?_ trivial
      refine condI hF (fun hF => ?_) (fun hF => ?_)
      · refine Or.inl ?_
        refine Or.inl ?_
        refine condI hF (fun hF => ?_) (fun hF => ?_)
        · refine Or.inl ?_
          have hz := someE hF
          subst hz
          refine Exists.intro [] (Exists.intro [] (Exists.intro [] (Exists.intro [] (Exists.intro [] (And.intro rfl (And.intro rfl (And.intro trivial trivial)))))))
        · refine Or.inl ?_
          have hz := someE hF
          subst hz
          refine Exists.intro [] (Exists.intro [] (Exists.intro [] (Exists.intro [] (Exists.intro [] (And.intro rfl (And.intro rfl (And.intro trivial trivial)))))))
      · have hz := someE hF
        subst hz
        refine Exists.intro [] (Exists.intro [] (Exists.intro [] (Exists.intro [] (Exists.intro [(0, some 0)] (And.intro rfl (And.intro (And.intro rfl trivial) (And.intro rfl trivial)))))))
  · rcases z2 with z2a | z2b
    · dsimp only [sumF] at hF
      refine And.intro ?_ trivial
      refine Or.inl ?_
      refine Or.inl ?_
      refine condI hF (fun hF => ?_) (fun hF => ?_)
      · refine Or.inl ?_
        refine And.intro (by decide) ?_
        refine And.intro (fun _ => ?_) (And.intro (fun h => absurd h (by decide)) (And.intro (fun h => absurd h (by decide)) (And.intro (fun h => absurd h (by decide)) trivial)))
        have hy := someE hF
        subst hy
        refine And.intro rfl (Exists.intro [] (Exists.intro [] (Exists.intro [] (Exists.intro [] (Exists.intro [] (And.intro rfl (And.intro rfl (And.intro trivial trivial))))))))
      · refine Or.inl ?_
        refine And.intro (by decide) ?_
        refine And.intro (fun _ => ?_) (And.intro (fun h => absurd h (by decide)) (And.intro (fun h => absurd h (by decide)) (And.intro (fun h => absurd h (by decide)) trivial)))
        have hy := someE hF
        subst hy
        refine And.intro rfl (Exists.intro [] (Exists.intro [] (Exists.intro [] (Exists.intro [] (Exists.intro [] (And.intro rfl (And.intro rfl (And.intro trivial trivial))))))))
    · dsimp only [sumF] at hF
      refine And.intro ?_ trivial
      have hy := someE hF
      subst hy
      refine And.intro rfl (Exists.intro [] (Exists.intro [] (Exists.intro [] (Exists.intro [] (Exists.intro [] (And.intro rfl (And.intro rfl (And.intro trivial trivial))))))))
theorem C40_holds : C40.Holds Try.prog 40 := holds_of_vc tab_ok mixed (fn := Try.f40) (by kernel_rfl) rfl C40 (fun x y hF => C40_vc x.1 x.2.1 x.2.2.1 x.2.2.2.1 x.2.2.2.2 y hF)
theorem f40_in : ∃ fn, Try.prog.funcs[40]? = some fn ∧ fn.body.isSome = true ∧ (fn.name == "runtime.NumGoroutine") = false := ⟨Try.f40, by kernel_rfl, by kernel_rfl, by kernel_rfl⟩
end Go.Proofs
namespace Go.Proofs
open Go.AM
-- carousel/carouselref1.Dot
def f15_j4 (a : List Int) (b : List Int) (i : Int) : Option (Sum Unit Unit) :=
  bif (decide (i < (List.length a : Int))) then
    bif (decide (i < (List.length b : Int))) then
      some (Sum.inl ())
    else
      some (Sum.inr ())
  else
    some (Sum.inr ())
def f15_l3 (a : List Int) (b : List Int) (go : (Int × Bool × Int × Int × Int × Int) → Option (Bool × Int × Int × Int × Int)) (i : Int) (c0_0 : Bool) (c0_1 : Int) (c0_2 : Int) (c0_3 : Int) (c0_4 : Int) : Option (Bool × Int × Int × Int × Int) :=
  bindF (f15_j4 a b i) fun z4 =>
  sumF z4 (fun z4a =>
    guardF (0 ≤ i ∧ i < (List.length a : Int)) <|
    guardF (0 ≤ i ∧ i < (List.length b : Int)) <|
    bindF (f39 (rd (0 : Int) a i) (rd (0 : Int) b i)) fun q5_9 =>
    bindF (f38 c0_0 c0_1 c0_2 c0_3 c0_4 q5_9.1 q5_9.2.1 q5_9.2.2.1 q5_9.2.2.2.1 q5_9.2.2.2.2) fun q5_10 =>
    go ((IntKind.i64.wrap (i + (1 : Int))), q5_10.1, q5_10.2.1, q5_10.2.2.1, q5_10.2.2.2.1, q5_10.2.2.2.2)) (fun z4b =>
    some (c0_0, c0_1, c0_2, c0_3, c0_4))
def f15 (a : List Int) (b : List Int) : Option Int :=
  bindF (loopF (fun go x => f15_l3 a b go x.1 x.2.1 x.2.2.1 x.2.2.2.1 x.2.2.2.2.1 x.2.2.2.2.2) fuelN ((0 : Int), false, (0 : Int), (0 : Int), (0 : Int), (0 : Int))) fun z3 =>
  bindF (f41 z3.1 z3.2.1 z3.2.2.1 z3.2.2.2.1 z3.2.2.2.2 (32 : Int)) fun q5_11 =>
  bindF (f40 q5_11.1 q5_11.2.1 q5_11.2.2.1 q5_11.2.2.2.1 q5_11.2.2.2.2) fun r5 =>
  some r5
def C15 : Con where
  X := (List Int) × (List Int)
  Y := Int
  e := 0
  args x := [.dat (.sl (.int .i64)) x.1, .dat (.sl (.int .i64)) x.2]
  hin x := []
  F x := f15 x.1 x.2
  ret y := [.dat (.int .i64) y]
  hout y := []
  nout := 0
theorem C15_vc (a : List Int) (b : List Int) (y : Int) (hF : f15 a b = some y) : vc Try.prog tab Try.f15.ntmps 0 (match Try.f15.body with | some c => c | none => .skip) (retK tab C15 Try.f15.results.toList y) (C15.shIn (a, b)).st := by
  unfold f15 at hF
  refine Or.inl ?_
  refine Or.inl ?_
  refine Or.inl ?_
  refine Or.inl ?_
  refine Or.inl ?_
  obtain ⟨z3, hz3, hF⟩ := bindE hF
  refine loopI (Int × Bool × Int × Int × Int × Int) (Bool × Int × Int × Int × Int) (fun x => ⟨[(0, .dat (.sl (.int .i64)) a), (1, .dat (.sl (.int .i64)) b), (5, .raw false [(.ptr 0 0)]), (6, .dat (.int .i64) x.1)], [(0, .cells [(.d .bool x.2.1), (.d (.int .u64) x.2.2.1), (.d (.int .u64) x.2.2.2.1), (.d (.int .u64) x.2.2.2.2.1), (.d (.int .u64) x.2.2.2.2.2)])], 1⟩) (fun z => [(2, ⟨[(5, .raw false [(.ptr 0 0)])], [(0, .cells [(.d .bool z.1), (.d (.int .u64) z.2.1), (.d (.int .u64) z.2.2.1), (.d (.int .u64) z.2.2.2.1), (.d (.int .u64) z.2.2.2.2)])], 1⟩)]) (loopF (fun go x => f15_l3 a b go x.1 x.2.1 x.2.2.1 x.2.2.2.1 x.2.2.2.2.1 x.2.2.2.2.2)) fuelN ((0 : Int), false, (0 : Int), (0 : Int), (0 : Int), (0 : Int)) z3 (And.intro hz3 (And.intro (Exists.intro [] (Exists.intro [] (Exists.intro [] (Exists.intro [] (Exists.intro [(0, some 0)] (And.intro rfl (And.intro rfl (And.intro rfl (And.intro rfl (And.intro (And.intro rfl trivial) (And.intro rfl trivial))))))))))) (And.intro (fun _ _ h => loopZ h) (And.intro (fun m => curI (fun i => curI (fun c0_0 => curI (fun c0_1 => curI (fun c0_2 => curI (fun c0_3 => fun c0_4 z hF => ?_)))))) ?_))))
  · have hF : f15_l3 a b (loopF (fun go x => f15_l3 a b go x.1 x.2.1 x.2.2.1 x.2.2.2.1 x.2.2.2.2.1 x.2.2.2.2.2) m) i c0_0 c0_1 c0_2 c0_3 c0_4 = some z := hF
    unfold f15_l3 at hF
    obtain ⟨z4, hz4, hF⟩ := bindE hF
    refine Or.inr ⟨Sum.elim (fun z4a => [(0, ⟨[(0, .dat (.sl (.int .i64)) a), (1, .dat (.sl (.int .i64)) b), (5, .raw false [(.ptr 0 0)]), (6, .dat (.int .i64) i)], [(0, .cells [(.d .bool c0_0), (.d (.int .u64) c0_1), (.d (.int .u64) c0_2), (.d (.int .u64) c0_3), (.d (.int .u64) c0_4)])], 1⟩)]) (fun z4b => [(2, ⟨[(5, .raw false [(.ptr 0 0)])], [(0, .cells [(.d .bool c0_0), (.d (.int .u64) c0_1), (.d (.int .u64) c0_2), (.d (.int .u64) c0_3), (.d (.int .u64) c0_4)])], 1⟩)]) z4, ?_, ?_⟩
    · have hF := hz4
      clear hz4
      unfold f15_j4 at hF
      refine Or.inl ?_
      refine condI hF (fun hF => ?_) (fun hF => ?_)
      · refine gdYT ?_
        refine gdYT ?_
        refine gdYT ?_
        refine condT ?_
        refine condI hF (fun hF => ?_) (fun hF => ?_)
        · have hz := someE hF
          subst hz
          refine Exists.intro [] (Exists.intro [] (Exists.intro [] (Exists.intro [] (Exists.intro [(0, some 0)] (And.intro rfl (And.intro rfl (And.intro rfl (And.intro rfl (And.intro (And.intro rfl trivial) (And.intro rfl trivial))))))))))
        · have hz := someE hF
          subst hz
          refine Exists.intro [] (Exists.intro [] (Exists.intro [] (Exists.intro [] (Exists.intro [(0, some 0)] (And.intro rfl (And.intro (And.intro rfl trivial) (And.intro rfl trivial)))))))
      · refine gdNT ?_
        refine gdNT ?_
        refine gdNT ?_
        refine condF ?_
        refine condF ?_
        have hz := someE hF
        subst hz
        refine Exists.intro [] (Exists.intro [] (Exists.intro [] (Exists.intro [] (Exists.intro [(0, some 0)] (And.intro rfl (And.intro (And.intro rfl trivial) (And.intro rfl trivial)))))))
    · rcases z4 with z4a | z4b
      · dsimp only [sumF] at hF
        refine And.intro ?_ trivial
        refine Or.inl ?_
        refine Exists.intro (.take 0 (.take 1 (.take 2 (.take 3 (.take 4 (.take 5 (.take 6 (.take 7 (.take 8 (.alt 9 (.alt 10 (.alt 11 .done .done) .done) .done)))))))))) (Exists.intro [(11, [0])] (Exists.intro [] (And.intro rfl ?_)))
        refine guardI hF (fun hF => ?_)
        refine guardI hF (fun hF => ?_)
        refine And.intro trivial ?_
        obtain ⟨q5_9, hq5_9, hF⟩ := bindE hF
        refine Or.inl (And.intro f39_in (callV0 (callI C39 ((rd (0 : Int) a i), (rd (0 : Int) b i)) q5_9 [] false C39_holds hq5_9 rfl rfl ?_)))
        refine (And.intro rfl (And.intro rfl (And.intro (fun h => nomatch h) (And.intro rfl (And.intro rfl (And.intro trivial (And.intro trivial ?_)))))))
        refine And.intro trivial ?_
        obtain ⟨q5_10, hq5_10, hF⟩ := bindE hF
        refine Or.inl (And.intro f38_in (callV0 (callI C38 (c0_0, c0_1, c0_2, c0_3, c0_4, q5_9.1, q5_9.2.1, q5_9.2.2.1, q5_9.2.2.2.1, q5_9.2.2.2.2) q5_10 [] false C38_holds hq5_10 rfl rfl ?_)))
        refine (And.intro (fun h => nomatch h) (And.intro rfl (And.intro rfl (And.intro (And.intro rfl (And.intro rfl trivial)) (And.intro trivial ?_)))))
        refine And.intro trivial ?_
        refine Or.inl ?_
        refine Exists.intro ((IntKind.i64.wrap (i + (1 : Int))), q5_10.1, q5_10.2.1, q5_10.2.2.1, q5_10.2.2.2.1, q5_10.2.2.2.2) (And.intro hF (Exists.intro [] (Exists.intro [] (Exists.intro [] (Exists.intro [] (Exists.intro [(0, some 0)] (And.intro rfl (And.intro rfl (And.intro rfl (And.intro rfl (And.intro (And.intro rfl trivial) (And.intro rfl trivial))))))))))))
      · dsimp only [sumF] at hF
        refine And.intro ?_ trivial
        have hz := someE hF
        subst hz
        refine Exists.intro [] (Exists.intro [] (Exists.intro [] (Exists.intro [] (Exists.intro [(0, some 0)] (And.intro rfl (And.intro (And.intro rfl trivial) (And.intro rfl trivial)))))))
  · refine And.intro ?_ trivial
    refine Or.inl ?_
    obtain ⟨q5_11, hq5_11, hF⟩ := bindE hF
    refine Or.inl (And.intro f41_in (callV0 (callI C41 (z3.1, z3.2.1, z3.2.2.1, z3.2.2.2.1, z3.2.2.2.2, (32 : Int)) q5_11 [] false C41_holds hq5_11 rfl rfl ?_)))
    refine (And.intro rfl (And.intro (fun h => nomatch h) (And.intro rfl (And.intro rfl (And.intro (And.intro rfl trivial) (And.intro trivial ?_))))))
    obtain ⟨r5, hr5, hF⟩ := bindE hF
    refine Or.inl (And.intro f40_in (callV0 (callI C40 (q5_11.1, q5_11.2.1, q5_11.2.2.1, q5_11.2.2.2.1, q5_11.2.2.2.2) r5 [] false C40_holds hr5 rfl rfl ?_)))
    refine (And.intro (fun h => nomatch h) (And.intro rfl (And.intro rfl (And.intro (And.intro rfl trivial) (And.intro trivial ?_)))))
    have hy := someE hF
    subst hy
    refine And.intro rfl (Exists.intro [] (Exists.intro [] (Exists.intro [] (Exists.intro [] (Exists.intro [] (And.intro rfl (And.intro rfl (And.intro trivial trivial))))))))
theorem C15_holds : C15.Holds Try.prog 15 := holds_of_vc tab_ok mixed (fn := Try.f15) (by kernel_rfl) rfl C15 (fun x y hF => C15_vc x.1 x.2 y hF)
theorem f15_in : ∃ fn, Try.prog.funcs[15]? = some fn ∧ fn.body.isSome = true ∧ (fn.name == "runtime.NumGoroutine") = false := ⟨Try.f15, by kernel_rfl, by kernel_rfl, by kernel_rfl⟩
end Go.Proofs
namespace Go.Proofs
open Go.AM
-- carousel/carousellaw7.MatmDots
def f3_j1 (a : List Int) (b : List Int) : Option (Sum Unit Unit) :=
  bif (decide ((List.length a : Int) > (200 : Int))) then
    some (Sum.inr ())
  else
    bif (decide ((List.length b : Int) > (200 : Int))) then
      some (Sum.inr ())
    else
      some (Sum.inl ())
def f3 (a : List Int) (b : List Int) : Option Bool :=
  bindF (f13) fun r1 =>
  bif (!r1) then
    some false
  else
    bindF (f3_j1 a b) fun z2 =>
    sumF z2 (fun z2a =>
      bindF (f14 a b) fun r3 =>
      bindF (f15 a b) fun r4 =>
      bif (r3 == r4) then
        bindF (f14 a b) fun r5 =>
        bindF (f14 b a) fun r6 =>
        some (r5 == r6)
      else
        some false) (fun z2b =>
      some true)
def C3 : Con where
  X := (List Int) × (List Int)
  Y := Bool
  e := 0
  args x := [.dat (.sl (.int .i64)) x.1, .dat (.sl (.int .i64)) x.2]
  hin x := []
  F x := f3 x.1 x.2
  ret y := [.dat .bool y]
  hout y := []
  nout := 0
theorem C3_vc (a : List Int) (b : List Int) (y : Bool) (hF : f3 a b = some y) : vc Try.prog tab Try.f3.ntmps 0 (match Try.f3.body with | some c => c | none => .skip) (retK tab C3 Try.f3.results.toList y) (C3.shIn (a, b)).st := by
  unfold f3 at hF
  refine Or.inl ?_
  refine Or.inl ?_
  refine Or.inl ?_
  obtain ⟨r1, hr1, hF⟩ := bindE hF
  refine Or.inl (And.intro f13_in (callV0 (callI C13 () r1 [] false C13_holds hr1 rfl rfl ?_)))
  refine (And.intro (fun h => nomatch h) (And.intro rfl (And.intro rfl (And.intro trivial (And.intro trivial ?_)))))
  refine condI hF (fun hF => ?_) (fun hF => ?_)
  · refine Or.inl ?_
    have hy := someE hF
    subst hy
    refine And.intro rfl (Exists.intro [] (Exists.intro [] (Exists.intro [] (Exists.intro [] (Exists.intro [] (And.intro rfl (And.intro rfl (And.intro trivial trivial))))))))
  · obtain ⟨z2, hz2, hF⟩ := bindE hF
    refine Or.inr ⟨Sum.elim (fun z2a => [(0, ⟨[(0, .dat (.sl (.int .i64)) a), (1, .dat (.sl (.int .i64)) b)], [], 0⟩)]) (fun z2b => [(1, ⟨[(4, .dat .bool true)], [], 0⟩)]) z2, ?_, ?_⟩
    · have hF := hz2
      clear hz2
      unfold f3_j1 at hF
      refine Or.inl ?_
      refine condN hF (fun hF => ?_) (fun hF => ?_)
      · refine gdYF ?_
        refine gdYF ?_
        refine condF ?_
        refine condI hF (fun hF => ?_) (fun hF => ?_)
        · refine Or.inl ?_
          have hz := someE hF
          subst hz
          refine Exists.intro [] (Exists.intro [] (Exists.intro [] (Exists.intro [] (Exists.intro [] (And.intro rfl (And.intro rfl (And.intro trivial trivial)))))))
        · have hz := someE hF
          subst hz
          refine Exists.intro [] (Exists.intro [] (Exists.intro [] (Exists.intro [] (Exists.intro [] (And.intro rfl (And.intro rfl (And.intro rfl (And.intro trivial trivial))))))))
      · refine gdNF ?_
        refine gdNF ?_
        refine condT ?_
        refine condT ?_
        refine Or.inl ?_
        have hz := someE hF
        subst hz
        refine Exists.intro [] (Exists.intro [] (Exists.intro [] (Exists.intro [] (Exists.intro [] (And.intro rfl (And.intro rfl (And.intro trivial trivial)))))))
    · rcases z2 with z2a | z2b
      · dsimp only [sumF] at hF
        refine And.intro ?_ trivial
        refine Or.inl ?_
        obtain ⟨r3, hr3, hF⟩ := bindE hF
        refine Or.inl (And.intro f14_in (callV0 (callI C14 (a, b) r3 [] false C14_holds hr3 rfl rfl ?_)))
        refine (And.intro rfl (And.intro rfl (And.intro (fun h => nomatch h) (And.intro rfl (And.intro rfl (And.intro trivial (And.intro trivial ?_)))))))
        obtain ⟨r4, hr4, hF⟩ := bindE hF
        refine Or.inl (And.intro f15_in (callV0 (callI C15 (a, b) r4 [] false C15_holds hr4 rfl rfl ?_)))
        refine (And.intro rfl (And.intro rfl (And.intro (fun h => nomatch h) (And.intro rfl (And.intro rfl (And.intro trivial (And.intro trivial ?_)))))))
        refine condI hF (fun hF => ?_) (fun hF => ?_)
        · refine gdYT ?_
          refine gdYT ?_
          obtain ⟨r5, hr5, hF⟩ := bindE hF
          refine Or.inl (And.intro f14_in (callV0 (callI C14 (a, b) r5 [] false C14_holds hr5 rfl rfl ?_)))
          refine (And.intro rfl (And.intro rfl (And.intro (fun h => nomatch h) (And.intro rfl (And.intro rfl (And.intro trivial (And.intro trivial ?_)))))))
          refine gdYT ?_
          refine gdYT ?_
          refine gdYT ?_
          obtain ⟨r6, hr6, hF⟩ := bindE hF
          refine Or.inl (And.intro f14_in (callV0 (callI C14 (b, a) r6 [] false C14_holds hr6 rfl rfl ?_)))
          refine (And.intro rfl (And.intro rfl (And.intro (fun h => nomatch h) (And.intro rfl (And.intro rfl (And.intro trivial (And.intro trivial ?_)))))))
          refine gdYT ?_
          refine condT ?_
          have hy := someE hF
          subst hy
          refine And.intro rfl (Exists.intro [] (Exists.intro [] (Exists.intro [] (Exists.intro [] (Exists.intro [] (And.intro rfl (And.intro rfl (And.intro trivial trivial))))))))
        · refine gdNT ?_
          refine gdNT ?_
          refine gdNT ?_
          refine gdNT ?_
          refine gdNT ?_
          refine gdNT ?_
          refine condF ?_
          have hy := someE hF
          subst hy
          refine And.intro rfl (Exists.intro [] (Exists.intro [] (Exists.intro [] (Exists.intro [] (Exists.intro [] (And.intro rfl (And.intro rfl (And.intro trivial trivial))))))))
      · dsimp only [sumF] at hF
        refine And.intro ?_ trivial
        have hy := someE hF
        subst hy
        refine And.intro rfl (Exists.intro [] (Exists.intro [] (Exists.intro [] (Exists.intro [] (Exists.intro [] (And.intro rfl (And.intro rfl (And.intro trivial trivial))))))))
theorem C3_holds : C3.Holds Try.prog 3 := holds_of_vc tab_ok mixed (fn := Try.f3) (by kernel_rfl) rfl C3 (fun x y hF => C3_vc x.1 x.2 y hF)
theorem f3_in : ∃ fn, Try.prog.funcs[3]? = some fn ∧ fn.body.isSome = true ∧ (fn.name == "runtime.NumGoroutine") = false := ⟨Try.f3, by kernel_rfl, by kernel_rfl, by kernel_rfl⟩
end Go.Proofs
