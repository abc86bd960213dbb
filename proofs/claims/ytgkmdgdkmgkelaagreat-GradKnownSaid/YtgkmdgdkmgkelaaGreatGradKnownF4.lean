import Derived.Test.YtgkmdgdkmgkelaaGreatGradKnownF3
set_option linter.unusedVariables false
set_option maxRecDepth 100000
set_option maxHeartbeats 8000000
namespace Go.Proofs
open Go.AM
-- carousel/matm.Sum
def f175_j3 (a : (List Int) × (List Int)) (side : Int) : Option Bool :=
  bindF (f86 (a.1, a.2)) fun r6 =>
  bif (!r6) then
    some true
  else
    bif (decide (side < (0 : Int))) then
      some true
    else
      some (decide (side ≥ (List.length a.1 : Int)))
def f175_j2 (a : (List Int) × (List Int)) (side : Int) : Option (Sum Unit Unit) :=
  bindF (f175_j3 a side) fun z5 =>
  bif z5 then
    some (Sum.inr ())
  else
    some (Sum.inl ())
def f175_l4 (a : (List Int) × (List Int)) (side : Int) (r7 : List Int) (go : (Int × (List (Int × Int))) → Option (List (Int × Int))) (v55 : Int) (l3 : List (Int × Int)) : Option (List (Int × Int)) :=
  bif (decide (v55 < (List.length a.2 : Int))) then
    guardF (0 ≤ v55 ∧ v55 < (List.length a.2 : Int)) <|
    guardF (0 ≤ side ∧ side < (List.length a.1 : Int)) <|
    guardF ((IntKind.i64.wrap ((rd (0 : Int) r7 side) * (rd (0 : Int) a.1 side))) ≠ 0) <|
    guardF ((rd (0 : Int) r7 side) ≠ 0) <|
    guardF (0 ≤ (IntKind.i64.wrap ((IntKind.i64.wrap ((IntKind.i64.wrap (Int.tdiv v55 (IntKind.i64.wrap ((rd (0 : Int) r7 side) * (rd (0 : Int) a.1 side))))) * (rd (0 : Int) r7 side))) + (Int.tmod v55 (rd (0 : Int) r7 side)))) ∧ (IntKind.i64.wrap ((IntKind.i64.wrap ((IntKind.i64.wrap (Int.tdiv v55 (IntKind.i64.wrap ((rd (0 : Int) r7 side) * (rd (0 : Int) a.1 side))))) * (rd (0 : Int) r7 side))) + (Int.tmod v55 (rd (0 : Int) r7 side)))) < (List.length l3 : Int)) <|
    bindF (f41 (rd (0 : Int) a.2 v55)) fun q10_7 =>
    bindF (f26 ((rd (Ty.z (.p (.int .i64) (.int .u64))) l3 (IntKind.i64.wrap ((IntKind.i64.wrap ((IntKind.i64.wrap (Int.tdiv v55 (IntKind.i64.wrap ((rd (0 : Int) r7 side) * (rd (0 : Int) a.1 side))))) * (rd (0 : Int) r7 side))) + (Int.tmod v55 (rd (0 : Int) r7 side))))).1, (rd (Ty.z (.p (.int .i64) (.int .u64))) l3 (IntKind.i64.wrap ((IntKind.i64.wrap ((IntKind.i64.wrap (Int.tdiv v55 (IntKind.i64.wrap ((rd (0 : Int) r7 side) * (rd (0 : Int) a.1 side))))) * (rd (0 : Int) r7 side))) + (Int.tmod v55 (rd (0 : Int) r7 side))))).2) (q10_7.1, q10_7.2)) fun q10_8 =>
    guardF (0 ≤ (IntKind.i64.wrap ((IntKind.i64.wrap ((IntKind.i64.wrap (Int.tdiv v55 (IntKind.i64.wrap ((rd (0 : Int) r7 side) * (rd (0 : Int) a.1 side))))) * (rd (0 : Int) r7 side))) + (Int.tmod v55 (rd (0 : Int) r7 side)))) ∧ (IntKind.i64.wrap ((IntKind.i64.wrap ((IntKind.i64.wrap (Int.tdiv v55 (IntKind.i64.wrap ((rd (0 : Int) r7 side) * (rd (0 : Int) a.1 side))))) * (rd (0 : Int) r7 side))) + (Int.tmod v55 (rd (0 : Int) r7 side)))) < (List.length l3 : Int)) <|
    go ((IntKind.i64.wrap (v55 + (1 : Int))), (List.set l3 (Int.toNat (IntKind.i64.wrap ((IntKind.i64.wrap ((IntKind.i64.wrap (Int.tdiv v55 (IntKind.i64.wrap ((rd (0 : Int) r7 side) * (rd (0 : Int) a.1 side))))) * (rd (0 : Int) r7 side))) + (Int.tmod v55 (rd (0 : Int) r7 side))))) (q10_8.1, q10_8.2)))
  else
    some l3
def f175_l5 (z8 : List (Int × Int)) (go : (Int × (List Int)) → Option (List Int)) (v93 : Int) (l4 : List Int) : Option (List Int) :=
  bif (decide (v93 < (List.length z8 : Int))) then
    guardF (0 ≤ v93 ∧ v93 < (List.length z8 : Int)) <|
    bindF (f133 ((rd (Ty.z (.p (.int .i64) (.int .u64))) z8 v93).1, (rd (Ty.z (.p (.int .i64) (.int .u64))) z8 v93).2)) fun q16_4 =>
    guardF (0 ≤ v93 ∧ v93 < (List.length l4 : Int)) <|
    go ((IntKind.i64.wrap (v93 + (1 : Int))), (List.set l4 (Int.toNat v93) q16_4))
  else
    some l4
def f175 (a : (List Int) × (List Int)) (side : Int) : Option (Int × (List Int) × (List Int)) :=
  bindF (f175_j2 a side) fun z3 =>
  sumF z3 (fun z3a =>
    guardF (0 ≤ side ∧ side ≤ (List.length a.1 : Int)) <|
    guardF (0 ≤ (IntKind.i64.wrap (side + (1 : Int))) ∧ (IntKind.i64.wrap (side + (1 : Int))) ≤ (List.length a.1 : Int)) <|
    guardF ((List.length ([] : List Int) + List.length (List.take (Int.toNat side) a.1)) * 8 ≤ 140737488355328) <|
    guardF ((List.length (([] : List Int) ++ (List.take (Int.toNat side) a.1)) + List.length (List.drop (Int.toNat (IntKind.i64.wrap (side + (1 : Int)))) a.1)) * 8 ≤ 140737488355328) <|
    bindF (f83 ((([] : List Int) ++ (List.take (Int.toNat side) a.1)) ++ (List.drop (Int.toNat (IntKind.i64.wrap (side + (1 : Int)))) a.1))) fun q3_12 =>
    guardF (0 ≤ q3_12 ∧ q3_12 ≤ q3_12 ∧ Int.toNat q3_12 * 16 ≤ 140737488355328) <|
    bindF (f181 a.1) fun r7 =>
    guardF (0 ≤ side ∧ side < (List.length r7 : Int)) <|
    bindF (loopF (fun go x => f175_l4 a side r7 go x.1 x.2) fuelN ((0 : Int), (List.replicate (Int.toNat q3_12) (Ty.z (.p (.int .i64) (.int .u64)))))) fun z8 =>
    bindF (f52 ((([] : List Int) ++ (List.take (Int.toNat side) a.1)) ++ (List.drop (Int.toNat (IntKind.i64.wrap (side + (1 : Int)))) a.1)) (0 : Int)) fun q10_10 =>
    bindF (loopF (fun go x => f175_l5 z8 go x.1 x.2) fuelN ((0 : Int), q10_10.2.2)) fun z9 =>
    some ((0 : Int), q10_10.2.1, z9)) (fun z3b =>
    some ((1 : Int), [], []))
def C175 : Con where
  X := ((List Int) × (List Int)) × Int
  Y := Int × (List Int) × (List Int)
  e := 0
  args x := [.dat (.p (.sl (.int .i64)) (.sl (.int .i64))) x.1, .dat (.int .i64) x.2]
  hin x := []
  F x := f175 x.1 x.2
  ret y := [.raw true [(.osl 0), (.osl 1)], .dat (.int .i64) y.1]
  hout y := [(0, .arr 3 (.int .i64) y.2.1), (1, .arr 23 (.int .i64) y.2.2)]
  nout := 2
theorem C175_vc (a : (List Int) × (List Int)) (side : Int) (y : Int × (List Int) × (List Int)) (hF : f175 a side = some y) : vc Tryz.prog tab Tryz.f175.ntmps 0 (match Tryz.f175.body with | some c => c | none => .skip) (retK tab C175 Tryz.f175.results.toList y) (C175.shIn (a, side)).st := by
  unfold f175 at hF
  refine Or.inl ?_
  obtain ⟨z3, hz3, hF⟩ := bindE hF
  refine Or.inr ⟨Sum.elim (fun z3a => [(0, ⟨[(1, .dat (.int .i64) side), (2, .raw false [(.ptr 0 0)]), (4, .raw false [(.ptr 1 0)])], [(0, .cells [(.d (.sl (.int .i64)) a.1), (.d (.sl (.int .i64)) a.2)]), (1, .cells [(.c (.slice none 0 0)), (.c (.slice none 0 0))])], 2⟩)]) (fun z3b => [(1, ⟨[(4, .raw false [(.ptr 0 0)]), (5, .dat (.int .i64) (1 : Int))], [(0, .cells [(.c (.slice none 0 0)), (.c (.slice none 0 0))])], 1⟩)]) z3, ?_, ?_⟩
  · have hF := hz3
    clear hz3
    unfold f175_j2 at hF
    obtain ⟨z5, hz5, hF⟩ := bindE hF
    refine Or.inr ⟨[(0, ⟨[(1, .dat (.int .i64) side), (2, .raw false [(.ptr 0 0)]), (4, .raw false [(.ptr 1 0)]), (29, .dat .bool z5)], [(0, .cells [(.d (.sl (.int .i64)) a.1), (.d (.sl (.int .i64)) a.2)]), (1, .cells [(.c (.slice none 0 0)), (.c (.slice none 0 0))])], 2⟩)], ?_, ?_⟩
    · have hF := hz5
      clear hz5
      unfold f175_j3 at hF
      obtain ⟨r6, hr6, hF⟩ := bindE hF
      refine Or.inl (And.intro f86_in (callV0 (callI C86 (a.1, a.2) r6 [] false C86_holds hr6 rfl rfl ?_)))
      refine (And.intro rfl (And.intro rfl (And.intro (fun h => nomatch h) (And.intro rfl (And.intro rfl (And.intro trivial (And.intro trivial ?_)))))))
      refine condN hF (fun hF => ?_) (fun hF => ?_)
      · refine gdYF ?_
        refine condF ?_
        refine condN hF (fun hF => ?_) (fun hF => ?_)
        · refine gdYF ?_
          refine gdYF ?_
          refine gdYF ?_
          refine gdYF ?_
          refine condF ?_
          have hz := someE hF
          subst hz
          refine Exists.intro [] (Exists.intro [] (Exists.intro [] (Exists.intro [] (Exists.intro [(0, some 0), (1, some 1)] (And.intro rfl (And.intro rfl (And.intro rfl (And.intro (And.intro rfl (And.intro rfl trivial)) (And.intro rfl (And.intro rfl trivial))))))))))
        · refine gdNF ?_
          refine gdNF ?_
          refine gdNF ?_
          refine gdNF ?_
          refine condT ?_
          have hz := someE hF
          subst hz
          refine Exists.intro [] (Exists.intro [] (Exists.intro [] (Exists.intro [] (Exists.intro [(0, some 0), (1, some 1)] (And.intro rfl (And.intro rfl (And.intro rfl (And.intro (And.intro rfl (And.intro rfl trivial)) (And.intro rfl (And.intro rfl trivial))))))))))
      · refine gdNF ?_
        refine condT ?_
        refine gdNF ?_
        refine gdNF ?_
        refine gdNF ?_
        refine gdNF ?_
        refine gdNF ?_
        refine condT ?_
        have hz := someE hF
        subst hz
        refine Exists.intro [] (Exists.intro [] (Exists.intro [] (Exists.intro [] (Exists.intro [(0, some 0), (1, some 1)] (And.intro rfl (And.intro rfl (And.intro rfl (And.intro (And.intro rfl (And.intro rfl trivial)) (And.intro rfl (And.intro rfl trivial))))))))))
    · refine And.intro ?_ trivial
      refine condI hF (fun hF => ?_) (fun hF => ?_)
      · refine Or.inl ?_
        refine Or.inl ?_
        have hz := someE hF
        subst hz
        refine Exists.intro [] (Exists.intro [] (Exists.intro [] (Exists.intro [] (Exists.intro [(0, some 1)] (And.intro rfl (And.intro rfl (And.intro (And.intro rfl trivial) (And.intro rfl trivial))))))))
      · have hz := someE hF
        subst hz
        refine Exists.intro [] (Exists.intro [] (Exists.intro [] (Exists.intro [] (Exists.intro [(0, some 0), (1, some 1)] (And.intro rfl (And.intro rfl (And.intro (And.intro rfl (And.intro rfl trivial)) (And.intro rfl (And.intro rfl trivial)))))))))
  · rcases z3 with z3a | z3b
    · dsimp only [sumF] at hF
      refine And.intro ?_ trivial
      refine Or.inl ?_
      refine Exists.intro (.take 1 (.take 2 (.take 3 (.take 4 (.take 6 (.take 7 (.take 8 (.take 9 (.take 10 (.alt 0 (.alt 5 (.alt 11 (.take 12 .done) .done) .done) .done)))))))))) (Exists.intro [] (Exists.intro [] (And.intro rfl ?_)))
      refine guardI hF (fun hF => ?_)
      refine guardI hF (fun hF => ?_)
      refine And.intro trivial ?_
      refine Or.inl ?_
      refine And.intro trivial ?_
      refine Or.inl ?_
      refine guardI hF (fun hF => ?_)
      refine And.intro trivial ?_
      refine Or.inl ?_
      refine guardI hF (fun hF => ?_)
      refine Or.inl ?_
      obtain ⟨q3_12, hq3_12, hF⟩ := bindE hF
      refine Or.inl (And.intro f83_in (callV0 (callI C83 ((([] : List Int) ++ (List.take (Int.toNat side) a.1)) ++ (List.drop (Int.toNat (IntKind.i64.wrap (side + (1 : Int)))) a.1)) q3_12 [] true C83_holds hq3_12 rfl rfl ?_)))
      refine (And.intro rfl (And.intro (fun _ => rfl) (And.intro rfl (And.intro rfl (And.intro trivial (And.intro trivial ?_))))))
      refine guardI hF (fun hF => ?_)
      refine Or.inl ?_
      obtain ⟨r7, hr7, hF⟩ := bindE hF
      refine Or.inl (And.intro f181_in (callV0 (callI C181 a.1 r7 [] false C181_holds hr7 rfl rfl ?_)))
      refine (And.intro rfl (And.intro (fun h => nomatch h) (And.intro rfl (And.intro rfl (And.intro trivial (And.intro trivial ?_))))))
      refine guardI hF (fun hF => ?_)
      refine Or.inl ?_
      refine Or.inl ?_
      obtain ⟨z8, hz8, hF⟩ := bindE hF
      refine loopI (Int × (List (Int × Int))) (List (Int × Int)) (fun x => ⟨[(1, .dat (.int .i64) side), (2, .raw false [(.ptr 0 0)]), (4, .raw false [(.ptr 1 0)]), (6, .raw false [(.osl 2)]), (7, .raw false [(.osl 3)]), (8, .dat (.int .i64) (rd (0 : Int) r7 side)), (53, .dat (.sl (.int .i64)) a.2), (54, .dat (.int .i64) (List.length a.2 : Int)), (55, .dat (.int .i64) x.1)], [(0, .cells [(.d (.sl (.int .i64)) a.1), (.d (.sl (.int .i64)) a.2)]), (1, .cells [(.c (.slice none 0 0)), (.c (.slice none 0 0))]), (2, .arr 3 (.int .i64) ((([] : List Int) ++ (List.take (Int.toNat side) a.1)) ++ (List.drop (Int.toNat (IntKind.i64.wrap (side + (1 : Int)))) a.1))), (3, .arr 40 (.p (.int .i64) (.int .u64)) x.2)], 4⟩) (fun z => [(2, ⟨[(4, .raw false [(.ptr 0 0)]), (6, .raw false [(.osl 1)]), (7, .raw false [(.osl 2)])], [(0, .cells [(.c (.slice none 0 0)), (.c (.slice none 0 0))]), (1, .arr 3 (.int .i64) ((([] : List Int) ++ (List.take (Int.toNat side) a.1)) ++ (List.drop (Int.toNat (IntKind.i64.wrap (side + (1 : Int)))) a.1))), (2, .arr 40 (.p (.int .i64) (.int .u64)) z)], 3⟩)]) (loopF (fun go x => f175_l4 a side r7 go x.1 x.2)) fuelN ((0 : Int), (List.replicate (Int.toNat q3_12) (Ty.z (.p (.int .i64) (.int .u64))))) z8 (And.intro hz8 (And.intro (Exists.intro [] (Exists.intro [] (Exists.intro [] (Exists.intro [] (Exists.intro [(0, some 0), (1, some 1), (2, some 4), (3, some 5)] (And.intro rfl (And.intro rfl (And.intro rfl (And.intro rfl (And.intro rfl (And.intro rfl (And.intro (And.intro rfl (And.intro rfl (And.intro rfl (And.intro rfl trivial)))) (And.intro rfl (And.intro rfl (And.intro rfl (And.intro rfl trivial)))))))))))))))) (And.intro (fun _ _ h => loopZ h) (And.intro (fun m => curI (fun v55 => fun l3 z hF => ?_)) ?_))))
      · have hF : f175_l4 a side r7 (loopF (fun go x => f175_l4 a side r7 go x.1 x.2) m) v55 l3 = some z := hF
        unfold f175_l4 at hF
        refine Or.inl ?_
        refine Or.inl ?_
        refine condI hF (fun hF => ?_) (fun hF => ?_)
        · refine Or.inl ?_
          refine Or.inl ?_
          refine guardI hF (fun hF => ?_)
          refine Or.inl ?_
          refine Exists.intro (.take 0 (.take 1 (.take 2 (.take 3 (.take 4 (.take 5 (.take 6 (.take 7 (.take 8 (.take 9 (.take 10 (.take 11 (.take 12 (.take 13 (.take 14 (.take 15 .done)))))))))))))))) (Exists.intro [] (Exists.intro [] (And.intro rfl ?_)))
          refine guardI hF (fun hF => ?_)
          refine guardI hF (fun hF => ?_)
          refine guardI hF (fun hF => ?_)
          refine Exists.intro (.take 0 (.take 1 (.take 2 (.take 3 (.take 4 (.take 5 (.take 6 (.alt 7 (.alt 8 (.take 9 (.alt 10 .done .done)) .done) .done)))))))) (Exists.intro [(10, [3])] (Exists.intro [] (And.intro rfl ?_)))
          refine guardI hF (fun hF => ?_)
          refine And.intro trivial ?_
          obtain ⟨q10_7, hq10_7, hF⟩ := bindE hF
          refine Or.inl (And.intro f41_in (callV0 (callI C41 (rd (0 : Int) a.2 v55) q10_7 [] false C41_holds hq10_7 rfl rfl ?_)))
          refine (And.intro rfl (And.intro (fun h => nomatch h) (And.intro rfl (And.intro rfl (And.intro trivial (And.intro trivial ?_))))))
          refine And.intro trivial ?_
          obtain ⟨q10_8, hq10_8, hF⟩ := bindE hF
          refine Or.inl (And.intro f26_in (callV0 (callI C26 (((rd (Ty.z (.p (.int .i64) (.int .u64))) l3 (IntKind.i64.wrap ((IntKind.i64.wrap ((IntKind.i64.wrap (Int.tdiv v55 (IntKind.i64.wrap ((rd (0 : Int) r7 side) * (rd (0 : Int) a.1 side))))) * (rd (0 : Int) r7 side))) + (Int.tmod v55 (rd (0 : Int) r7 side))))).1, (rd (Ty.z (.p (.int .i64) (.int .u64))) l3 (IntKind.i64.wrap ((IntKind.i64.wrap ((IntKind.i64.wrap (Int.tdiv v55 (IntKind.i64.wrap ((rd (0 : Int) r7 side) * (rd (0 : Int) a.1 side))))) * (rd (0 : Int) r7 side))) + (Int.tmod v55 (rd (0 : Int) r7 side))))).2), (q10_7.1, q10_7.2)) q10_8 [] false C26_holds hq10_8 rfl rfl ?_)))
          refine (And.intro rfl (And.intro rfl (And.intro rfl (And.intro rfl (And.intro (fun h => nomatch h) (And.intro rfl (And.intro rfl (And.intro trivial (And.intro trivial ?_)))))))))
          refine guardI hF (fun hF => ?_)
          refine And.intro trivial ?_
          refine Or.inl ?_
          refine Exists.intro ((IntKind.i64.wrap (v55 + (1 : Int))), (List.set l3 (Int.toNat (IntKind.i64.wrap ((IntKind.i64.wrap ((IntKind.i64.wrap (Int.tdiv v55 (IntKind.i64.wrap ((rd (0 : Int) r7 side) * (rd (0 : Int) a.1 side))))) * (rd (0 : Int) r7 side))) + (Int.tmod v55 (rd (0 : Int) r7 side))))) (q10_8.1, q10_8.2))) (And.intro hF (Exists.intro [] (Exists.intro [] (Exists.intro [] (Exists.intro [] (Exists.intro [(0, some 0), (1, some 1), (2, some 2), (3, some 3)] (And.intro rfl (And.intro rfl (And.intro rfl (And.intro rfl (And.intro rfl (And.intro rfl (And.intro (And.intro rfl (And.intro rfl (And.intro rfl (And.intro rfl trivial)))) (And.intro rfl (And.intro rfl (And.intro rfl (And.intro rfl trivial)))))))))))))))))
        · have hz := someE hF
          subst hz
          refine Exists.intro [] (Exists.intro [] (Exists.intro [] (Exists.intro [] (Exists.intro [(0, some 1), (1, some 2), (2, some 3)] (And.intro rfl (And.intro (And.intro rfl (And.intro rfl (And.intro rfl trivial))) (And.intro rfl (And.intro rfl (And.intro rfl trivial)))))))))
      · refine And.intro ?_ trivial
        refine Or.inl ?_
        obtain ⟨q10_10, hq10_10, hF⟩ := bindE hF
        refine Or.inl (And.intro f52_in (callV0 (callI C52 (((([] : List Int) ++ (List.take (Int.toNat side) a.1)) ++ (List.drop (Int.toNat (IntKind.i64.wrap (side + (1 : Int)))) a.1)), (0 : Int)) q10_10 [] true C52_holds hq10_10 rfl rfl ?_)))
        refine (And.intro rfl (And.intro rfl (And.intro (fun _ => rfl) (And.intro rfl (And.intro rfl (And.intro trivial (And.intro trivial ?_)))))))
        refine Or.inl ?_
        refine Or.inl ?_
        refine Or.inl ?_
        obtain ⟨z9, hz9, hF⟩ := bindE hF
        refine loopI (Int × (List Int)) (List Int) (fun x => ⟨[(4, .raw false [(.ptr 0 0)]), (12, .raw false [(.ptr 1 0)]), (91, .raw false [(.osl 2)]), (92, .dat (.int .i64) (List.length z8 : Int)), (93, .dat (.int .i64) x.1)], [(0, .cells [(.c (.slice none 0 0)), (.c (.slice none 0 0))]), (1, .cells [(.osl 3), (.osl 4)]), (2, .arr 40 (.p (.int .i64) (.int .u64)) z8), (3, .arr 3 (.int .i64) q10_10.2.1), (4, .arr 23 (.int .i64) x.2)], 5⟩) (fun z => [(4, ⟨[(4, .raw false [(.ptr 0 0)]), (12, .raw false [(.ptr 1 0)])], [(0, .cells [(.c (.slice none 0 0)), (.c (.slice none 0 0))]), (1, .cells [(.osl 2), (.osl 3)]), (2, .arr 3 (.int .i64) q10_10.2.1), (3, .arr 23 (.int .i64) z)], 4⟩)]) (loopF (fun go x => f175_l5 z8 go x.1 x.2)) fuelN ((0 : Int), q10_10.2.2) z9 (And.intro hz9 (And.intro (Exists.intro [] (Exists.intro [] (Exists.intro [] (Exists.intro [] (Exists.intro [(0, some 0), (1, some 5), (2, some 2), (3, some 3), (4, some 4)] (And.intro rfl (And.intro rfl (And.intro rfl (And.intro (And.intro rfl (And.intro rfl (And.intro rfl trivial))) (And.intro rfl (And.intro rfl (And.intro rfl (And.intro rfl (And.intro rfl trivial)))))))))))))) (And.intro (fun _ _ h => loopZ h) (And.intro (fun m => curI (fun v93 => fun l4 z hF => ?_)) ?_))))
        · have hF : f175_l5 z8 (loopF (fun go x => f175_l5 z8 go x.1 x.2) m) v93 l4 = some z := hF
          unfold f175_l5 at hF
          refine Or.inl ?_
          refine Or.inl ?_
          refine condI hF (fun hF => ?_) (fun hF => ?_)
          · refine Or.inl ?_
            refine Or.inl ?_
            refine guardI hF (fun hF => ?_)
            refine Or.inl ?_
            refine Exists.intro (.take 0 (.take 1 (.take 2 (.take 3 (.alt 4 (.take 5 (.alt 6 .done .done)) .done))))) (Exists.intro [] (Exists.intro [] (And.intro rfl ?_)))
            refine And.intro trivial ?_
            obtain ⟨q16_4, hq16_4, hF⟩ := bindE hF
            refine Or.inl (And.intro f133_in (callV0 (callI C133 ((rd (Ty.z (.p (.int .i64) (.int .u64))) z8 v93).1, (rd (Ty.z (.p (.int .i64) (.int .u64))) z8 v93).2) q16_4 [] false C133_holds hq16_4 rfl rfl ?_)))
            refine (And.intro rfl (And.intro rfl (And.intro (fun h => nomatch h) (And.intro rfl (And.intro rfl (And.intro trivial (And.intro trivial ?_)))))))
            refine guardI hF (fun hF => ?_)
            refine And.intro trivial ?_
            refine Or.inl ?_
            refine Exists.intro ((IntKind.i64.wrap (v93 + (1 : Int))), (List.set l4 (Int.toNat v93) q16_4)) (And.intro hF (Exists.intro [] (Exists.intro [] (Exists.intro [] (Exists.intro [] (Exists.intro [(0, some 0), (1, some 1), (2, some 2), (3, some 3), (4, some 4)] (And.intro rfl (And.intro rfl (And.intro rfl (And.intro (And.intro rfl (And.intro rfl (And.intro rfl trivial))) (And.intro rfl (And.intro rfl (And.intro rfl (And.intro rfl (And.intro rfl trivial)))))))))))))))
          · have hz := someE hF
            subst hz
            refine Exists.intro [] (Exists.intro [] (Exists.intro [] (Exists.intro [] (Exists.intro [(0, some 0), (1, some 1), (2, some 3), (3, some 4)] (And.intro rfl (And.intro (And.intro rfl (And.intro rfl trivial)) (And.intro rfl (And.intro rfl (And.intro rfl (And.intro rfl trivial))))))))))
        · refine And.intro ?_ trivial
          refine Or.inl ?_
          refine Or.inl ?_
          have hy := someE hF
          subst hy
          refine And.intro rfl (Exists.intro [] (Exists.intro [] (Exists.intro [] (Exists.intro [] (Exists.intro [(0, some 2), (1, some 3)] (And.intro rfl (And.intro rfl (And.intro (And.intro rfl trivial) (And.intro rfl (And.intro rfl trivial))))))))))
    · dsimp only [sumF] at hF
      refine And.intro ?_ trivial
      have hy := someE hF
      subst hy
      refine And.intro rfl (Exists.intro [] (Exists.intro [] (Exists.intro [] (Exists.intro [] (Exists.intro [(0, none), (1, none)] (And.intro rfl (And.intro rfl (And.intro (And.intro rfl trivial) (And.intro rfl (And.intro rfl trivial))))))))))
theorem C175_holds : C175.Holds Tryz.prog 175 := holds_of_vc tab_ok mixed (fn := Tryz.f175) (by kernel_rfl) rfl C175 (fun x y hF => C175_vc x.1 x.2 y hF)
theorem f175_in : ∃ fn, Tryz.prog.funcs[175]? = some fn ∧ fn.body.isSome = true ∧ (fn.name == "runtime.NumGoroutine") = false := ⟨Tryz.f175, by kernel_rfl, by kernel_rfl, by kernel_rfl⟩
end Go.Proofs
namespace Go.Proofs
open Go.AM
-- carousel/matm.total
def f197_l1 (v : List Int) (go : (Int × Int × Int) → Option (Int × Int)) (v9 : Int) (c1_0 : Int) (c1_1 : Int) : Option (Int × Int) :=
  bif (decide (v9 < (List.length v : Int))) then
    guardF (0 ≤ v9 ∧ v9 < (List.length v : Int)) <|
    bindF (f41 (rd (0 : Int) v v9)) fun q5_2 =>
    bindF (f26 (c1_0, c1_1) (q5_2.1, q5_2.2)) fun q5_3 =>
    go ((IntKind.i64.wrap (v9 + (1 : Int))), q5_3.1, q5_3.2)
  else
    some (c1_0, c1_1)
def f197 (v : List Int) : Option (Int × Int) :=
  bindF (loopF (fun go x => f197_l1 v go x.1 x.2.1 x.2.2) fuelN ((0 : Int), (0 : Int), (0 : Int))) fun z1 =>
  some (z1.1, z1.2)
def C197 : Con where
  X := List Int
  Y := Int × Int
  e := 0
  args x := [.dat (.sl (.int .i64)) x]
  hin x := []
  F x := f197 x
  ret y := [.raw true [(.d (.int .i64) y.1), (.d (.int .u64) y.2)]]
  hout y := []
  nout := 0
theorem C197_vc (v : List Int) (y : Int × Int) (hF : f197 v = some y) : vc Tryz.prog tab Tryz.f197.ntmps 0 (match Tryz.f197.body with | some c => c | none => .skip) (retK tab C197 Tryz.f197.results.toList y) (C197.shIn v).st := by
  unfold f197 at hF
  refine Or.inl ?_
  refine Or.inl ?_
  refine Or.inl ?_
  refine Or.inl ?_
  refine Or.inl ?_
  obtain ⟨z1, hz1, hF⟩ := bindE hF
  refine loopI (Int × Int × Int) (Int × Int) (fun x => ⟨[(2, .raw false [(.ptr 0 0)]), (3, .raw false [(.ptr 1 0)]), (7, .dat (.sl (.int .i64)) v), (8, .dat (.int .i64) (List.length v : Int)), (9, .dat (.int .i64) x.1)], [(0, .cells [(.d (.int .i64) (0 : Int)), (.d (.int .u64) (0 : Int))]), (1, .cells [(.d (.int .i64) x.2.1), (.d (.int .u64) x.2.2)])], 2⟩) (fun z => [(2, ⟨[(2, .raw false [(.ptr 0 0)]), (3, .raw false [(.ptr 1 0)])], [(0, .cells [(.d (.int .i64) (0 : Int)), (.d (.int .u64) (0 : Int))]), (1, .cells [(.d (.int .i64) z.1), (.d (.int .u64) z.2)])], 2⟩)]) (loopF (fun go x => f197_l1 v go x.1 x.2.1 x.2.2)) fuelN ((0 : Int), (0 : Int), (0 : Int)) z1 (And.intro hz1 (And.intro (Exists.intro [] (Exists.intro [] (Exists.intro [] (Exists.intro [] (Exists.intro [(0, some 0), (1, some 1)] (And.intro rfl (And.intro rfl (And.intro rfl (And.intro rfl (And.intro (And.intro rfl (And.intro rfl trivial)) (And.intro rfl (And.intro rfl trivial)))))))))))) (And.intro (fun _ _ h => loopZ h) (And.intro (fun m => curI (fun v9 => curI (fun c1_0 => fun c1_1 z hF => ?_))) ?_))))
  · have hF : f197_l1 v (loopF (fun go x => f197_l1 v go x.1 x.2.1 x.2.2) m) v9 c1_0 c1_1 = some z := hF
    unfold f197_l1 at hF
    refine Or.inl ?_
    refine Or.inl ?_
    refine condI hF (fun hF => ?_) (fun hF => ?_)
    · refine Or.inl ?_
      refine Or.inl ?_
      refine guardI hF (fun hF => ?_)
      refine Exists.intro (.take 0 (.take 1 (.alt 2 (.alt 3 (.alt 4 .done .done) .done) .done))) (Exists.intro [(4, [1])] (Exists.intro [] (And.intro rfl ?_)))
      refine And.intro trivial ?_
      obtain ⟨q5_2, hq5_2, hF⟩ := bindE hF
      refine Or.inl (And.intro f41_in (callV0 (callI C41 (rd (0 : Int) v v9) q5_2 [] false C41_holds hq5_2 rfl rfl ?_)))
      refine (And.intro rfl (And.intro (fun h => nomatch h) (And.intro rfl (And.intro rfl (And.intro trivial (And.intro trivial ?_))))))
      refine And.intro trivial ?_
      obtain ⟨q5_3, hq5_3, hF⟩ := bindE hF
      refine Or.inl (And.intro f26_in (callV0 (callI C26 ((c1_0, c1_1), (q5_2.1, q5_2.2)) q5_3 [] false C26_holds hq5_3 rfl rfl ?_)))
      refine (And.intro rfl (And.intro rfl (And.intro rfl (And.intro rfl (And.intro (fun h => nomatch h) (And.intro rfl (And.intro rfl (And.intro trivial (And.intro trivial ?_)))))))))
      refine And.intro trivial ?_
      refine Or.inl ?_
      refine Exists.intro ((IntKind.i64.wrap (v9 + (1 : Int))), q5_3.1, q5_3.2) (And.intro hF (Exists.intro [] (Exists.intro [] (Exists.intro [] (Exists.intro [] (Exists.intro [(0, some 0), (1, some 1)] (And.intro rfl (And.intro rfl (And.intro rfl (And.intro rfl (And.intro (And.intro rfl (And.intro rfl trivial)) (And.intro rfl (And.intro rfl trivial)))))))))))))
    · have hz := someE hF
      subst hz
      refine Exists.intro [] (Exists.intro [] (Exists.intro [] (Exists.intro [] (Exists.intro [(0, some 0), (1, some 1)] (And.intro rfl (And.intro (And.intro rfl (And.intro rfl trivial)) (And.intro rfl (And.intro rfl trivial))))))))
  · refine And.intro ?_ trivial
    refine Or.inl ?_
    refine Or.inl ?_
    have hy := someE hF
    subst hy
    refine And.intro rfl (Exists.intro [] (Exists.intro [] (Exists.intro [] (Exists.intro [] (Exists.intro [] (And.intro rfl (And.intro (And.intro rfl trivial) trivial)))))))
theorem C197_holds : C197.Holds Tryz.prog 197 := holds_of_vc tab_ok mixed (fn := Tryz.f197) (by kernel_rfl) rfl C197 (fun x y hF => C197_vc x y hF)
theorem f197_in : ∃ fn, Tryz.prog.funcs[197]? = some fn ∧ fn.body.isSome = true ∧ (fn.name == "runtime.NumGoroutine") = false := ⟨Tryz.f197, by kernel_rfl, by kernel_rfl, by kernel_rfl⟩
end Go.Proofs
namespace Go.Proofs
open Go.AM
-- carousel/matm.All
def f177 (a : (List Int) × (List Int)) : Option (Int × Int) :=
  bindF (f86 (a.1, a.2)) fun r1 =>
  bif (!r1) then
    some ((0 : Int), (1 : Int))
  else
    bindF (f197 a.2) fun r2 =>
    bindF (f133 (r2.1, r2.2)) fun r3 =>
    some (r3, (0 : Int))
def C177 : Con where
  X := (List Int) × (List Int)
  Y := Int × Int
  e := 0
  args x := [.dat (.p (.sl (.int .i64)) (.sl (.int .i64))) x]
  hin x := []
  F x := f177 x
  ret y := [.dat (.int .i64) y.1, .dat (.int .i64) y.2]
  hout y := []
  nout := 0
theorem C177_vc (a : (List Int) × (List Int)) (y : Int × Int) (hF : f177 a = some y) : vc Tryz.prog tab Tryz.f177.ntmps 0 (match Tryz.f177.body with | some c => c | none => .skip) (retK tab C177 Tryz.f177.results.toList y) (C177.shIn a).st := by
  unfold f177 at hF
  refine Or.inl ?_
  refine Or.inl ?_
  refine Or.inl ?_
  obtain ⟨r1, hr1, hF⟩ := bindE hF
  refine Or.inl (And.intro f86_in (callV0 (callI C86 (a.1, a.2) r1 [] false C86_holds hr1 rfl rfl ?_)))
  refine (And.intro rfl (And.intro rfl (And.intro (fun h => nomatch h) (And.intro rfl (And.intro rfl (And.intro trivial (And.intro trivial ?_)))))))
  refine condI hF (fun hF => ?_) (fun hF => ?_)
  · refine Or.inl ?_
    have hy := someE hF
    subst hy
    refine And.intro rfl (Exists.intro [] (Exists.intro [] (Exists.intro [] (Exists.intro [] (Exists.intro [] (And.intro rfl (And.intro rfl (And.intro rfl (And.intro trivial trivial)))))))))
  · refine Or.inl ?_
    obtain ⟨r2, hr2, hF⟩ := bindE hF
    refine Or.inl (And.intro f197_in (callV0 (callI C197 a.2 r2 [] false C197_holds hr2 rfl rfl ?_)))
    refine (And.intro rfl (And.intro (fun h => nomatch h) (And.intro rfl (And.intro rfl (And.intro trivial (And.intro trivial ?_))))))
    obtain ⟨r3, hr3, hF⟩ := bindE hF
    refine Or.inl (And.intro f133_in (callV0 (callI C133 (r2.1, r2.2) r3 [] false C133_holds hr3 rfl rfl ?_)))
    refine (And.intro rfl (And.intro rfl (And.intro (fun h => nomatch h) (And.intro rfl (And.intro rfl (And.intro trivial (And.intro trivial ?_)))))))
    have hy := someE hF
    subst hy
    refine And.intro rfl (Exists.intro [] (Exists.intro [] (Exists.intro [] (Exists.intro [] (Exists.intro [] (And.intro rfl (And.intro rfl (And.intro rfl (And.intro trivial trivial)))))))))
theorem C177_holds : C177.Holds Tryz.prog 177 := holds_of_vc tab_ok mixed (fn := Tryz.f177) (by kernel_rfl) rfl C177 (fun x y hF => C177_vc x y hF)
theorem f177_in : ∃ fn, Tryz.prog.funcs[177]? = some fn ∧ fn.body.isSome = true ∧ (fn.name == "runtime.NumGoroutine") = false := ⟨Tryz.f177, by kernel_rfl, by kernel_rfl, by kernel_rfl⟩
end Go.Proofs
namespace Go.Proofs
open Go.AM
-- carousel/tape.single
def f176 (x_ : Int) (e : Int) : Option (Int × (List Int) × (List Int)) :=
  bif (e != (0 : Int)) then
    some (e, [], [])
  else
    bindF (f52 ([]) x_) fun r1 =>
    some (r1.1, r1.2.1, r1.2.2)
def C176 : Con where
  X := Int × Int
  Y := Int × (List Int) × (List Int)
  e := 0
  args x := [.dat (.int .i64) x.1, .dat (.int .i64) x.2]
  hin x := []
  F x := f176 x.1 x.2
  ret y := [.raw true [(.osl 0), (.osl 1)], .dat (.int .i64) y.1]
  hout y := [(0, .arr 3 (.int .i64) y.2.1), (1, .arr 23 (.int .i64) y.2.2)]
  nout := 2
theorem C176_vc (x_ : Int) (e : Int) (y : Int × (List Int) × (List Int)) (hF : f176 x_ e = some y) : vc Tryz.prog tab Tryz.f176.ntmps 0 (match Tryz.f176.body with | some c => c | none => .skip) (retK tab C176 Tryz.f176.results.toList y) (C176.shIn (x_, e)).st := by
  unfold f176 at hF
  refine Or.inl ?_
  refine Or.inl ?_
  refine Or.inl ?_
  refine condI hF (fun hF => ?_) (fun hF => ?_)
  · refine Or.inl ?_
    refine Or.inl ?_
    have hy := someE hF
    subst hy
    refine And.intro rfl (Exists.intro [] (Exists.intro [] (Exists.intro [] (Exists.intro [] (Exists.intro [(0, none), (1, none)] (And.intro rfl (And.intro rfl (And.intro (And.intro rfl trivial) (And.intro rfl (And.intro rfl trivial))))))))))
  · refine Or.inl ?_
    obtain ⟨r1, hr1, hF⟩ := bindE hF
    refine Or.inl (And.intro f52_in (callV0 (callI C52 ([], x_) r1 [] false C52_holds hr1 rfl rfl ?_)))
    refine (And.intro rfl (And.intro rfl (And.intro (fun h => nomatch h) (And.intro rfl (And.intro rfl (And.intro trivial (And.intro trivial ?_)))))))
    refine Or.inl ?_
    have hy := someE hF
    subst hy
    refine And.intro rfl (Exists.intro [] (Exists.intro [] (Exists.intro [] (Exists.intro [] (Exists.intro [(0, some 1), (1, some 2)] (And.intro rfl (And.intro rfl (And.intro (And.intro rfl trivial) (And.intro rfl (And.intro rfl trivial))))))))))
theorem C176_holds : C176.Holds Tryz.prog 176 := holds_of_vc tab_ok mixed (fn := Tryz.f176) (by kernel_rfl) rfl C176 (fun x y hF => C176_vc x.1 x.2 y hF)
theorem f176_in : ∃ fn, Tryz.prog.funcs[176]? = some fn ∧ fn.body.isSome = true ∧ (fn.name == "runtime.NumGoroutine") = false := ⟨Tryz.f176, by kernel_rfl, by kernel_rfl, by kernel_rfl⟩
end Go.Proofs
namespace Go.Proofs
open Go.AM
-- carousel/wide.Cmp
def f129_j1 (a : Int × Int) (b : Int × Int) : Option Bool :=
  bif (decide (a.1 < b.1)) then
    some true
  else
    bif (a.1 == b.1) then
      some (decide (a.2 < b.2))
    else
      some false
def f129 (a : Int × Int) (b : Int × Int) : Option Int :=
  bindF (f129_j1 a b) fun z1 =>
  bif z1 then
    some (-1 : Int)
  else
    bif (a.1 == b.1 && a.2 == b.2) then
      some (0 : Int)
    else
      some (1 : Int)
def C129 : Con where
  X := (Int × Int) × (Int × Int)
  Y := Int
  e := 0
  args x := [.dat (.p (.int .i64) (.int .u64)) x.1, .dat (.p (.int .i64) (.int .u64)) x.2]
  hin x := []
  F x := f129 x.1 x.2
  ret y := [.dat (.int .i64) y]
  hout y := []
  nout := 0
theorem C129_vc (a : Int × Int) (b : Int × Int) (y : Int) (hF : f129 a b = some y) : vc Tryz.prog tab Tryz.f129.ntmps 0 (match Tryz.f129.body with | some c => c | none => .skip) (retK tab C129 Tryz.f129.results.toList y) (C129.shIn (a, b)).st := by
  unfold f129 at hF
  refine Or.inl ?_
  refine Or.inl ?_
  obtain ⟨z1, hz1, hF⟩ := bindE hF
  refine Or.inr ⟨[(0, ⟨[(2, .raw false [(.ptr 0 0)]), (3, .raw false [(.ptr 1 0)]), (5, .dat .bool z1)], [(0, .cells [(.d (.int .i64) a.1), (.d (.int .u64) a.2)]), (1, .cells [(.d (.int .i64) b.1), (.d (.int .u64) b.2)])], 2⟩)], ?_, ?_⟩
  · have hF := hz1
    clear hz1
    unfold f129_j1 at hF
    refine condN hF (fun hF => ?_) (fun hF => ?_)
    · refine gdYF ?_
      refine gdYF ?_
      refine gdYF ?_
      refine gdYF ?_
      refine gdYF ?_
      refine condI hF (fun hF => ?_) (fun hF => ?_)
      · refine gdYT ?_
        refine gdYT ?_
        refine gdYT ?_
        refine gdYT ?_
        refine gdYF ?_
        refine condT ?_
        refine condF ?_
        have hz := someE hF
        subst hz
        refine Exists.intro [] (Exists.intro [] (Exists.intro [] (Exists.intro [] (Exists.intro [(0, some 0), (1, some 1)] (And.intro rfl (And.intro rfl (And.intro (And.intro rfl (And.intro rfl trivial)) (And.intro rfl (And.intro rfl trivial)))))))))
      · refine gdNT ?_
        refine gdNT ?_
        refine gdNT ?_
        refine gdNT ?_
        refine gdYF ?_
        refine condF ?_
        refine condF ?_
        have hz := someE hF
        subst hz
        refine Exists.intro [] (Exists.intro [] (Exists.intro [] (Exists.intro [] (Exists.intro [(0, some 0), (1, some 1)] (And.intro rfl (And.intro rfl (And.intro (And.intro rfl (And.intro rfl trivial)) (And.intro rfl (And.intro rfl trivial)))))))))
    · refine gdNF ?_
      refine gdNF ?_
      refine gdNF ?_
      refine gdNF ?_
      refine gdNF ?_
      refine gdNF ?_
      refine condT ?_
      have hz := someE hF
      subst hz
      refine Exists.intro [] (Exists.intro [] (Exists.intro [] (Exists.intro [] (Exists.intro [(0, some 0), (1, some 1)] (And.intro rfl (And.intro rfl (And.intro (And.intro rfl (And.intro rfl trivial)) (And.intro rfl (And.intro rfl trivial)))))))))
  · refine And.intro ?_ trivial
    refine condI hF (fun hF => ?_) (fun hF => ?_)
    · refine Or.inl ?_
      have hy := someE hF
      subst hy
      refine And.intro rfl (Exists.intro [] (Exists.intro [] (Exists.intro [] (Exists.intro [] (Exists.intro [] (And.intro rfl (And.intro rfl (And.intro trivial trivial))))))))
    · refine Or.inl ?_
      refine And.intro ⟨by kernel_rfl, by kernel_rfl, by decide, by decide⟩ ?_
      refine condI hF (fun hF => ?_) (fun hF => ?_)
      · refine Or.inl ?_
        have hy := someE hF
        subst hy
        refine And.intro rfl (Exists.intro [] (Exists.intro [] (Exists.intro [] (Exists.intro [] (Exists.intro [] (And.intro rfl (And.intro rfl (And.intro trivial trivial))))))))
      · refine Or.inl ?_
        have hy := someE hF
        subst hy
        refine And.intro rfl (Exists.intro [] (Exists.intro [] (Exists.intro [] (Exists.intro [] (Exists.intro [] (And.intro rfl (And.intro rfl (And.intro trivial trivial))))))))
theorem C129_holds : C129.Holds Tryz.prog 129 := holds_of_vc tab_ok mixed (fn := Tryz.f129) (by kernel_rfl) rfl C129 (fun x y hF => C129_vc x.1 x.2 y hF)
theorem f129_in : ∃ fn, Tryz.prog.funcs[129]? = some fn ∧ fn.body.isSome = true ∧ (fn.name == "runtime.NumGoroutine") = false := ⟨Tryz.f129, by kernel_rfl, by kernel_rfl, by kernel_rfl⟩
end Go.Proofs
namespace Go.Proofs
open Go.AM
-- math/bits.Len64
def f195_s1 : ByteArray := ⟨⟨[0, 1, 2, 2, 3, 3, 3, 3, 4, 4, 4, 4, 4, 4, 4, 4, 5, 5, 5, 5, 5, 5, 5, 5, 5, 5, 5, 5, 5, 5, 5, 5, 6, 6, 6, 6, 6, 6, 6, 6, 6, 6, 6, 6, 6, 6, 6, 6, 6, 6, 6, 6, 6, 6, 6, 6, 6, 6, 6, 6, 6, 6, 6, 6, 7, 7, 7, 7, 7, 7, 7, 7, 7, 7, 7, 7, 7, 7, 7, 7, 7, 7, 7, 7, 7, 7, 7, 7, 7, 7, 7, 7, 7, 7, 7, 7, 7, 7, 7, 7, 7, 7, 7, 7, 7, 7, 7, 7, 7, 7, 7, 7, 7, 7, 7, 7, 7, 7, 7, 7, 7, 7, 7, 7, 7, 7, 7, 7, 8, 8, 8, 8, 8, 8, 8, 8, 8, 8, 8, 8, 8, 8, 8, 8, 8, 8, 8, 8, 8, 8, 8, 8, 8, 8, 8, 8, 8, 8, 8, 8, 8, 8, 8, 8, 8, 8, 8, 8, 8, 8, 8, 8, 8, 8, 8, 8, 8, 8, 8, 8, 8, 8, 8, 8, 8, 8, 8, 8, 8, 8, 8, 8, 8, 8, 8, 8, 8, 8, 8, 8, 8, 8, 8, 8, 8, 8, 8, 8, 8, 8, 8, 8, 8, 8, 8, 8, 8, 8, 8, 8, 8, 8, 8, 8, 8, 8, 8, 8, 8, 8, 8, 8, 8, 8, 8, 8, 8, 8, 8, 8, 8, 8, 8, 8, 8, 8, 8, 8, 8, 8, 8, 8, 8, 8, 8, 8]⟩⟩
def f195_j1 (x_ : Int) : Option (Int × Int) :=
  bif (decide (x_ ≥ (4294967296 : Int))) then
    some ((Int.fdiv x_ (2 ^ min (Int.toNat (32 : Int)) (IntKind.bits IntKind.u64))), (32 : Int))
  else
    some (x_, (0 : Int))
def f195_j2 (z1 : Int × Int) : Option (Int × Int) :=
  bif (decide (z1.1 ≥ (65536 : Int))) then
    some ((Int.fdiv z1.1 (2 ^ min (Int.toNat (16 : Int)) (IntKind.bits IntKind.u64))), (IntKind.i64.wrap (z1.2 + (16 : Int))))
  else
    some (z1.1, z1.2)
def f195_j3 (z2 : Int × Int) : Option (Int × Int) :=
  bif (decide (z2.1 ≥ (256 : Int))) then
    some ((Int.fdiv z2.1 (2 ^ min (Int.toNat (8 : Int)) (IntKind.bits IntKind.u64))), (IntKind.i64.wrap (z2.2 + (8 : Int))))
  else
    some (z2.1, z2.2)
def f195 (x_ : Int) : Option Int :=
  bindF (f195_j1 x_) fun z1 =>
  bindF (f195_j2 z1) fun z2 =>
  bindF (f195_j3 z2) fun z3 =>
  guardF (0 ≤ (IntKind.u8.wrap z3.1) ∧ (IntKind.u8.wrap z3.1) < (ByteArray.size f195_s1 : Int)) <|
  some (IntKind.i64.wrap (z3.2 + (IntKind.i64.wrap (bt f195_s1 (IntKind.u8.wrap z3.1)))))
def C195 : Con where
  X := Int
  Y := Int
  e := 0
  args x := [.dat (.int .u64) x]
  hin x := []
  F x := f195 x
  ret y := [.dat (.int .i64) y]
  hout y := []
  nout := 0
theorem C195_vc (x_ : Int) (y : Int) (hF : f195 x_ = some y) : vc Tryz.prog tab Tryz.f195.ntmps 0 (match Tryz.f195.body with | some c => c | none => .skip) (retK tab C195 Tryz.f195.results.toList y) (C195.shIn x_).st := by
  unfold f195 at hF
  refine Or.inl ?_
  obtain ⟨z1, hz1, hF⟩ := bindE hF
  refine Or.inr ⟨[(0, ⟨[(0, .dat (.int .u64) z1.1), (2, .dat (.int .i64) z1.2)], [], 0⟩)], ?_, ?_⟩
  · have hF := hz1
    clear hz1
    unfold f195_j1 at hF
    refine Or.inl ?_
    refine condI hF (fun hF => ?_) (fun hF => ?_)
    · refine Or.inl ?_
      refine And.intro (by decide) ?_
      have hz := someE hF
      subst hz
      refine Exists.intro [] (Exists.intro [] (Exists.intro [] (Exists.intro [] (Exists.intro [] (And.intro rfl (And.intro rfl (And.intro rfl (And.intro trivial trivial))))))))
    · have hz := someE hF
      subst hz
      refine Exists.intro [] (Exists.intro [] (Exists.intro [] (Exists.intro [] (Exists.intro [] (And.intro rfl (And.intro rfl (And.intro rfl (And.intro trivial trivial))))))))
  · refine And.intro ?_ trivial
    obtain ⟨z2, hz2, hF⟩ := bindE hF
    refine Or.inr ⟨[(0, ⟨[(0, .dat (.int .u64) z2.1), (2, .dat (.int .i64) z2.2)], [], 0⟩)], ?_, ?_⟩
    · have hF := hz2
      clear hz2
      unfold f195_j2 at hF
      refine Or.inl ?_
      refine condI hF (fun hF => ?_) (fun hF => ?_)
      · refine Or.inl ?_
        refine And.intro (by decide) ?_
        have hz := someE hF
        subst hz
        refine Exists.intro [] (Exists.intro [] (Exists.intro [] (Exists.intro [] (Exists.intro [] (And.intro rfl (And.intro rfl (And.intro rfl (And.intro trivial trivial))))))))
      · have hz := someE hF
        subst hz
        refine Exists.intro [] (Exists.intro [] (Exists.intro [] (Exists.intro [] (Exists.intro [] (And.intro rfl (And.intro rfl (And.intro rfl (And.intro trivial trivial))))))))
    · refine And.intro ?_ trivial
      obtain ⟨z3, hz3, hF⟩ := bindE hF
      refine Or.inr ⟨[(0, ⟨[(0, .dat (.int .u64) z3.1), (2, .dat (.int .i64) z3.2)], [], 0⟩)], ?_, ?_⟩
      · have hF := hz3
        clear hz3
        unfold f195_j3 at hF
        refine Or.inl ?_
        refine condI hF (fun hF => ?_) (fun hF => ?_)
        · refine Or.inl ?_
          refine And.intro (by decide) ?_
          have hz := someE hF
          subst hz
          refine Exists.intro [] (Exists.intro [] (Exists.intro [] (Exists.intro [] (Exists.intro [] (And.intro rfl (And.intro rfl (And.intro rfl (And.intro trivial trivial))))))))
        · have hz := someE hF
          subst hz
          refine Exists.intro [] (Exists.intro [] (Exists.intro [] (Exists.intro [] (Exists.intro [] (And.intro rfl (And.intro rfl (And.intro rfl (And.intro trivial trivial))))))))
      · refine And.intro ?_ trivial
        refine Or.inl ?_
        refine guardI hF (fun hF => ?_)
        have hy := someE hF
        subst hy
        refine And.intro rfl (Exists.intro [] (Exists.intro [] (Exists.intro [] (Exists.intro [] (Exists.intro [] (And.intro rfl (And.intro rfl (And.intro trivial trivial))))))))
theorem C195_holds : C195.Holds Tryz.prog 195 := holds_of_vc tab_ok mixed (fn := Tryz.f195) (by kernel_rfl) rfl C195 (fun x y hF => C195_vc x y hF)
theorem f195_in : ∃ fn, Tryz.prog.funcs[195]? = some fn ∧ fn.body.isSome = true ∧ (fn.name == "runtime.NumGoroutine") = false := ⟨Tryz.f195, by kernel_rfl, by kernel_rfl, by kernel_rfl⟩
end Go.Proofs
namespace Go.Proofs
open Go.AM
-- math/bits.LeadingZeros64
def f171 (x_ : Int) : Option Int :=
  bindF (f195 x_) fun r1 =>
  some (IntKind.i64.wrap ((64 : Int) - r1))
def C171 : Con where
  X := Int
  Y := Int
  e := 0
  args x := [.dat (.int .u64) x]
  hin x := []
  F x := f171 x
  ret y := [.dat (.int .i64) y]
  hout y := []
  nout := 0
theorem C171_vc (x_ : Int) (y : Int) (hF : f171 x_ = some y) : vc Tryz.prog tab Tryz.f171.ntmps 0 (match Tryz.f171.body with | some c => c | none => .skip) (retK tab C171 Tryz.f171.results.toList y) (C171.shIn x_).st := by
  unfold f171 at hF
  refine Or.inl ?_
  refine Or.inl ?_
  obtain ⟨r1, hr1, hF⟩ := bindE hF
  refine Or.inl (And.intro f195_in (callV0 (callI C195 x_ r1 [] false C195_holds hr1 rfl rfl ?_)))
  refine (And.intro rfl (And.intro (fun h => nomatch h) (And.intro rfl (And.intro rfl (And.intro trivial (And.intro trivial ?_))))))
  have hy := someE hF
  subst hy
  refine And.intro rfl (Exists.intro [] (Exists.intro [] (Exists.intro [] (Exists.intro [] (Exists.intro [] (And.intro rfl (And.intro rfl (And.intro trivial trivial))))))))
theorem C171_holds : C171.Holds Tryz.prog 171 := holds_of_vc tab_ok mixed (fn := Tryz.f171) (by kernel_rfl) rfl C171 (fun x y hF => C171_vc x y hF)
theorem f171_in : ∃ fn, Tryz.prog.funcs[171]? = some fn ∧ fn.body.isSome = true ∧ (fn.name == "runtime.NumGoroutine") = false := ⟨Tryz.f171, by kernel_rfl, by kernel_rfl, by kernel_rfl⟩
end Go.Proofs
namespace Go.Proofs
open Go.AM
-- math/bits.Div64
def f132_j4 (lo : Int) (y_ : Int) (q6_7 : Int) (q1 : Int) (rhat : Int) : Option (Sum Unit Unit) :=
  bif (decide (q1 ≥ (4294967296 : Int))) then
    some (Sum.inl ())
  else
    bif (decide ((IntKind.u64.wrap (q1 * (bitsOf IntKind.u64 (fun p q => p &&& q) (IntKind.u64.wrap (y_ * 2 ^ min (Int.toNat (IntKind.u64.wrap q6_7)) (IntKind.bits IntKind.u64))) (4294967295 : Int)))) > (IntKind.u64.wrap ((IntKind.u64.wrap ((4294967296 : Int) * rhat)) + (Int.fdiv (IntKind.u64.wrap (lo * 2 ^ min (Int.toNat (IntKind.u64.wrap q6_7)) (IntKind.bits IntKind.u64))) (2 ^ min (Int.toNat (32 : Int)) (IntKind.bits IntKind.u64))))))) then
      some (Sum.inl ())
    else
      some (Sum.inr ())
def f132_l3 (lo : Int) (y_ : Int) (q6_7 : Int) (go : (Int × Int) → Option Int) (q1 : Int) (rhat : Int) : Option Int :=
  bindF (f132_j4 lo y_ q6_7 q1 rhat) fun z4 =>
  sumF z4 (fun z4a =>
    bif (decide ((IntKind.u64.wrap (rhat + (Int.fdiv (IntKind.u64.wrap (y_ * 2 ^ min (Int.toNat (IntKind.u64.wrap q6_7)) (IntKind.bits IntKind.u64))) (2 ^ min (Int.toNat (32 : Int)) (IntKind.bits IntKind.u64))))) ≥ (4294967296 : Int))) then
      some (IntKind.u64.wrap (q1 - (1 : Int)))
    else
      go ((IntKind.u64.wrap (q1 - (1 : Int))), (IntKind.u64.wrap (rhat + (Int.fdiv (IntKind.u64.wrap (y_ * 2 ^ min (Int.toNat (IntKind.u64.wrap q6_7)) (IntKind.bits IntKind.u64))) (2 ^ min (Int.toNat (32 : Int)) (IntKind.bits IntKind.u64))))))) (fun z4b =>
    some q1)
def f132_j8 (lo : Int) (y_ : Int) (q6_7 : Int) (rhat : Int) (q0 : Int) : Option (Sum Unit Unit) :=
  bif (decide (q0 ≥ (4294967296 : Int))) then
    some (Sum.inl ())
  else
    bif (decide ((IntKind.u64.wrap (q0 * (bitsOf IntKind.u64 (fun p q => p &&& q) (IntKind.u64.wrap (y_ * 2 ^ min (Int.toNat (IntKind.u64.wrap q6_7)) (IntKind.bits IntKind.u64))) (4294967295 : Int)))) > (IntKind.u64.wrap ((IntKind.u64.wrap ((4294967296 : Int) * rhat)) + (bitsOf IntKind.u64 (fun p q => p &&& q) (IntKind.u64.wrap (lo * 2 ^ min (Int.toNat (IntKind.u64.wrap q6_7)) (IntKind.bits IntKind.u64))) (4294967295 : Int)))))) then
      some (Sum.inl ())
    else
      some (Sum.inr ())
def f132_l7 (lo : Int) (y_ : Int) (q6_7 : Int) (go : (Int × Int) → Option Int) (rhat : Int) (q0 : Int) : Option Int :=
  bindF (f132_j8 lo y_ q6_7 rhat q0) fun z8 =>
  sumF z8 (fun z8a =>
    bif (decide ((IntKind.u64.wrap (rhat + (Int.fdiv (IntKind.u64.wrap (y_ * 2 ^ min (Int.toNat (IntKind.u64.wrap q6_7)) (IntKind.bits IntKind.u64))) (2 ^ min (Int.toNat (32 : Int)) (IntKind.bits IntKind.u64))))) ≥ (4294967296 : Int))) then
      some (IntKind.u64.wrap (q0 - (1 : Int)))
    else
      go ((IntKind.u64.wrap (rhat + (Int.fdiv (IntKind.u64.wrap (y_ * 2 ^ min (Int.toNat (IntKind.u64.wrap q6_7)) (IntKind.bits IntKind.u64))) (2 ^ min (Int.toNat (32 : Int)) (IntKind.bits IntKind.u64))))), (IntKind.u64.wrap (q0 - (1 : Int))))) (fun z8b =>
    some q0)
def f132 (hi : Int) (lo : Int) (y_ : Int) : Option (Int × Int) :=
  bif (y_ == (0 : Int)) then
    none
  else
    bif (decide (y_ ≤ hi)) then
      none
    else
      bif (hi == (0 : Int)) then
        guardF (y_ ≠ 0) <|
        guardF (y_ ≠ 0) <|
        some ((IntKind.u64.wrap (Int.tdiv lo y_)), (Int.tmod lo y_))
      else
        bindF (f171 y_) fun q6_7 =>
        guardF (0 ≤ (IntKind.u64.wrap q6_7)) <|
        guardF (0 ≤ (IntKind.u64.wrap q6_7)) <|
        guardF (0 ≤ (IntKind.u64.wrap ((64 : Int) - (IntKind.u64.wrap q6_7)))) <|
        guardF (0 ≤ (IntKind.u64.wrap q6_7)) <|
        guardF ((Int.fdiv (IntKind.u64.wrap (y_ * 2 ^ min (Int.toNat (IntKind.u64.wrap q6_7)) (IntKind.bits IntKind.u64))) (2 ^ min (Int.toNat (32 : Int)) (IntKind.bits IntKind.u64))) ≠ 0) <|
        bindF (loopF (fun go x => f132_l3 lo y_ q6_7 go x.1 x.2) fuelN ((IntKind.u64.wrap (Int.tdiv (bitsOf IntKind.u64 (fun p q => p ||| q) (IntKind.u64.wrap (hi * 2 ^ min (Int.toNat (IntKind.u64.wrap q6_7)) (IntKind.bits IntKind.u64))) (Int.fdiv lo (2 ^ min (Int.toNat (IntKind.u64.wrap ((64 : Int) - (IntKind.u64.wrap q6_7)))) (IntKind.bits IntKind.u64)))) (Int.fdiv (IntKind.u64.wrap (y_ * 2 ^ min (Int.toNat (IntKind.u64.wrap q6_7)) (IntKind.bits IntKind.u64))) (2 ^ min (Int.toNat (32 : Int)) (IntKind.bits IntKind.u64))))), (IntKind.u64.wrap ((bitsOf IntKind.u64 (fun p q => p ||| q) (IntKind.u64.wrap (hi * 2 ^ min (Int.toNat (IntKind.u64.wrap q6_7)) (IntKind.bits IntKind.u64))) (Int.fdiv lo (2 ^ min (Int.toNat (IntKind.u64.wrap ((64 : Int) - (IntKind.u64.wrap q6_7)))) (IntKind.bits IntKind.u64)))) - (IntKind.u64.wrap ((IntKind.u64.wrap (Int.tdiv (bitsOf IntKind.u64 (fun p q => p ||| q) (IntKind.u64.wrap (hi * 2 ^ min (Int.toNat (IntKind.u64.wrap q6_7)) (IntKind.bits IntKind.u64))) (Int.fdiv lo (2 ^ min (Int.toNat (IntKind.u64.wrap ((64 : Int) - (IntKind.u64.wrap q6_7)))) (IntKind.bits IntKind.u64)))) (Int.fdiv (IntKind.u64.wrap (y_ * 2 ^ min (Int.toNat (IntKind.u64.wrap q6_7)) (IntKind.bits IntKind.u64))) (2 ^ min (Int.toNat (32 : Int)) (IntKind.bits IntKind.u64))))) * (Int.fdiv (IntKind.u64.wrap (y_ * 2 ^ min (Int.toNat (IntKind.u64.wrap q6_7)) (IntKind.bits IntKind.u64))) (2 ^ min (Int.toNat (32 : Int)) (IntKind.bits IntKind.u64))))))))) fun z3 =>
        guardF ((Int.fdiv (IntKind.u64.wrap (y_ * 2 ^ min (Int.toNat (IntKind.u64.wrap q6_7)) (IntKind.bits IntKind.u64))) (2 ^ min (Int.toNat (32 : Int)) (IntKind.bits IntKind.u64))) ≠ 0) <|
        bindF (loopF (fun go x => f132_l7 lo y_ q6_7 go x.1 x.2) fuelN ((IntKind.u64.wrap ((IntKind.u64.wrap ((IntKind.u64.wrap ((IntKind.u64.wrap ((bitsOf IntKind.u64 (fun p q => p ||| q) (IntKind.u64.wrap (hi * 2 ^ min (Int.toNat (IntKind.u64.wrap q6_7)) (IntKind.bits IntKind.u64))) (Int.fdiv lo (2 ^ min (Int.toNat (IntKind.u64.wrap ((64 : Int) - (IntKind.u64.wrap q6_7)))) (IntKind.bits IntKind.u64)))) * (4294967296 : Int))) + (Int.fdiv (IntKind.u64.wrap (lo * 2 ^ min (Int.toNat (IntKind.u64.wrap q6_7)) (IntKind.bits IntKind.u64))) (2 ^ min (Int.toNat (32 : Int)) (IntKind.bits IntKind.u64))))) - (IntKind.u64.wrap (z3 * (IntKind.u64.wrap (y_ * 2 ^ min (Int.toNat (IntKind.u64.wrap q6_7)) (IntKind.bits IntKind.u64))))))) - (IntKind.u64.wrap ((IntKind.u64.wrap (Int.tdiv (IntKind.u64.wrap ((IntKind.u64.wrap ((IntKind.u64.wrap ((bitsOf IntKind.u64 (fun p q => p ||| q) (IntKind.u64.wrap (hi * 2 ^ min (Int.toNat (IntKind.u64.wrap q6_7)) (IntKind.bits IntKind.u64))) (Int.fdiv lo (2 ^ min (Int.toNat (IntKind.u64.wrap ((64 : Int) - (IntKind.u64.wrap q6_7)))) (IntKind.bits IntKind.u64)))) * (4294967296 : Int))) + (Int.fdiv (IntKind.u64.wrap (lo * 2 ^ min (Int.toNat (IntKind.u64.wrap q6_7)) (IntKind.bits IntKind.u64))) (2 ^ min (Int.toNat (32 : Int)) (IntKind.bits IntKind.u64))))) - (IntKind.u64.wrap (z3 * (IntKind.u64.wrap (y_ * 2 ^ min (Int.toNat (IntKind.u64.wrap q6_7)) (IntKind.bits IntKind.u64))))))) (Int.fdiv (IntKind.u64.wrap (y_ * 2 ^ min (Int.toNat (IntKind.u64.wrap q6_7)) (IntKind.bits IntKind.u64))) (2 ^ min (Int.toNat (32 : Int)) (IntKind.bits IntKind.u64))))) * (Int.fdiv (IntKind.u64.wrap (y_ * 2 ^ min (Int.toNat (IntKind.u64.wrap q6_7)) (IntKind.bits IntKind.u64))) (2 ^ min (Int.toNat (32 : Int)) (IntKind.bits IntKind.u64))))))), (IntKind.u64.wrap (Int.tdiv (IntKind.u64.wrap ((IntKind.u64.wrap ((IntKind.u64.wrap ((bitsOf IntKind.u64 (fun p q => p ||| q) (IntKind.u64.wrap (hi * 2 ^ min (Int.toNat (IntKind.u64.wrap q6_7)) (IntKind.bits IntKind.u64))) (Int.fdiv lo (2 ^ min (Int.toNat (IntKind.u64.wrap ((64 : Int) - (IntKind.u64.wrap q6_7)))) (IntKind.bits IntKind.u64)))) * (4294967296 : Int))) + (Int.fdiv (IntKind.u64.wrap (lo * 2 ^ min (Int.toNat (IntKind.u64.wrap q6_7)) (IntKind.bits IntKind.u64))) (2 ^ min (Int.toNat (32 : Int)) (IntKind.bits IntKind.u64))))) - (IntKind.u64.wrap (z3 * (IntKind.u64.wrap (y_ * 2 ^ min (Int.toNat (IntKind.u64.wrap q6_7)) (IntKind.bits IntKind.u64))))))) (Int.fdiv (IntKind.u64.wrap (y_ * 2 ^ min (Int.toNat (IntKind.u64.wrap q6_7)) (IntKind.bits IntKind.u64))) (2 ^ min (Int.toNat (32 : Int)) (IntKind.bits IntKind.u64))))))) fun z7 =>
        guardF (0 ≤ (IntKind.u64.wrap q6_7)) <|
        some ((IntKind.u64.wrap ((IntKind.u64.wrap (z3 * (4294967296 : Int))) + z7)), (Int.fdiv (IntKind.u64.wrap ((IntKind.u64.wrap ((IntKind.u64.wrap ((IntKind.u64.wrap ((IntKind.u64.wrap ((IntKind.u64.wrap ((bitsOf IntKind.u64 (fun p q => p ||| q) (IntKind.u64.wrap (hi * 2 ^ min (Int.toNat (IntKind.u64.wrap q6_7)) (IntKind.bits IntKind.u64))) (Int.fdiv lo (2 ^ min (Int.toNat (IntKind.u64.wrap ((64 : Int) - (IntKind.u64.wrap q6_7)))) (IntKind.bits IntKind.u64)))) * (4294967296 : Int))) + (Int.fdiv (IntKind.u64.wrap (lo * 2 ^ min (Int.toNat (IntKind.u64.wrap q6_7)) (IntKind.bits IntKind.u64))) (2 ^ min (Int.toNat (32 : Int)) (IntKind.bits IntKind.u64))))) - (IntKind.u64.wrap (z3 * (IntKind.u64.wrap (y_ * 2 ^ min (Int.toNat (IntKind.u64.wrap q6_7)) (IntKind.bits IntKind.u64))))))) * (4294967296 : Int))) + (bitsOf IntKind.u64 (fun p q => p &&& q) (IntKind.u64.wrap (lo * 2 ^ min (Int.toNat (IntKind.u64.wrap q6_7)) (IntKind.bits IntKind.u64))) (4294967295 : Int)))) - (IntKind.u64.wrap (z7 * (IntKind.u64.wrap (y_ * 2 ^ min (Int.toNat (IntKind.u64.wrap q6_7)) (IntKind.bits IntKind.u64))))))) (2 ^ min (Int.toNat (IntKind.u64.wrap q6_7)) (IntKind.bits IntKind.u64))))
def C132 : Con where
  X := Int × Int × Int
  Y := Int × Int
  e := 0
  args x := [.dat (.int .u64) x.1, .dat (.int .u64) x.2.1, .dat (.int .u64) x.2.2]
  hin x := []
  F x := f132 x.1 x.2.1 x.2.2
  ret y := [.dat (.int .u64) y.1, .dat (.int .u64) y.2]
  hout y := []
  nout := 0
theorem C132_vc (hi : Int) (lo : Int) (y_ : Int) (y : Int × Int) (hF : f132 hi lo y_ = some y) : vc Tryz.prog tab Tryz.f132.ntmps 0 (match Tryz.f132.body with | some c => c | none => .skip) (retK tab C132 Tryz.f132.results.toList y) (C132.shIn (hi, lo, y_)).st := by
  unfold f132 at hF
  refine Or.inl ?_
  refine Or.inl ?_
  refine Or.inl ?_
  refine condI hF (fun hF => ?_) (fun hF => ?_)
  · exact nomatch hF
  · refine Or.inl ?_
    refine Or.inl ?_
    refine condI hF (fun hF => ?_) (fun hF => ?_)
    · exact nomatch hF
    · refine Or.inl ?_
      refine Or.inl ?_
      refine condI hF (fun hF => ?_) (fun hF => ?_)
      · refine Or.inl ?_
        refine Exists.intro (.take 0 (.take 1 (.take 2 (.take 3 (.take 4 (.take 5 (.take 6 (.take 7 .done)))))))) (Exists.intro [] (Exists.intro [] (And.intro rfl ?_)))
        refine guardI hF (fun hF => ?_)
        refine guardI hF (fun hF => ?_)
        have hy := someE hF
        subst hy
        refine And.intro rfl (Exists.intro [] (Exists.intro [] (Exists.intro [] (Exists.intro [] (Exists.intro [] (And.intro rfl (And.intro rfl (And.intro rfl (And.intro trivial trivial)))))))))
      · refine Or.inl ?_
        obtain ⟨q6_7, hq6_7, hF⟩ := bindE hF
        refine Or.inl (And.intro f171_in (callV0 (callI C171 y_ q6_7 [] false C171_holds hq6_7 rfl rfl ?_)))
        refine (And.intro rfl (And.intro (fun h => nomatch h) (And.intro rfl (And.intro rfl (And.intro trivial (And.intro trivial ?_))))))
        refine Or.inl ?_
        refine guardI hF (fun hF => ?_)
        refine Or.inl ?_
        refine And.intro (by decide) ?_
        refine Or.inl ?_
        refine Or.inl ?_
        refine guardI hF (fun hF => ?_)
        refine guardI hF (fun hF => ?_)
        refine Or.inl ?_
        refine guardI hF (fun hF => ?_)
        refine Or.inl ?_
        refine And.intro (by decide) ?_
        refine Or.inl ?_
        refine Or.inl ?_
        refine guardI hF (fun hF => ?_)
        refine Or.inl ?_
        refine Or.inl ?_
        obtain ⟨z3, hz3, hF⟩ := bindE hF
        refine loopI (Int × Int) Int (fun x => ⟨[(2, .dat (.int .u64) (IntKind.u64.wrap (y_ * 2 ^ min (Int.toNat (IntKind.u64.wrap q6_7)) (IntKind.bits IntKind.u64)))), (8, .dat (.int .u64) (IntKind.u64.wrap q6_7)), (9, .dat (.int .u64) (Int.fdiv (IntKind.u64.wrap (y_ * 2 ^ min (Int.toNat (IntKind.u64.wrap q6_7)) (IntKind.bits IntKind.u64))) (2 ^ min (Int.toNat (32 : Int)) (IntKind.bits IntKind.u64)))), (10, .dat (.int .u64) (bitsOf IntKind.u64 (fun p q => p &&& q) (IntKind.u64.wrap (y_ * 2 ^ min (Int.toNat (IntKind.u64.wrap q6_7)) (IntKind.bits IntKind.u64))) (4294967295 : Int))), (11, .dat (.int .u64) (bitsOf IntKind.u64 (fun p q => p ||| q) (IntKind.u64.wrap (hi * 2 ^ min (Int.toNat (IntKind.u64.wrap q6_7)) (IntKind.bits IntKind.u64))) (Int.fdiv lo (2 ^ min (Int.toNat (IntKind.u64.wrap ((64 : Int) - (IntKind.u64.wrap q6_7)))) (IntKind.bits IntKind.u64))))), (13, .dat (.int .u64) (Int.fdiv (IntKind.u64.wrap (lo * 2 ^ min (Int.toNat (IntKind.u64.wrap q6_7)) (IntKind.bits IntKind.u64))) (2 ^ min (Int.toNat (32 : Int)) (IntKind.bits IntKind.u64)))), (14, .dat (.int .u64) (bitsOf IntKind.u64 (fun p q => p &&& q) (IntKind.u64.wrap (lo * 2 ^ min (Int.toNat (IntKind.u64.wrap q6_7)) (IntKind.bits IntKind.u64))) (4294967295 : Int))), (15, .dat (.int .u64) x.1), (16, .dat (.int .u64) x.2)], [], 0⟩) (fun z => [(2, ⟨[(2, .dat (.int .u64) (IntKind.u64.wrap (y_ * 2 ^ min (Int.toNat (IntKind.u64.wrap q6_7)) (IntKind.bits IntKind.u64)))), (8, .dat (.int .u64) (IntKind.u64.wrap q6_7)), (9, .dat (.int .u64) (Int.fdiv (IntKind.u64.wrap (y_ * 2 ^ min (Int.toNat (IntKind.u64.wrap q6_7)) (IntKind.bits IntKind.u64))) (2 ^ min (Int.toNat (32 : Int)) (IntKind.bits IntKind.u64)))), (10, .dat (.int .u64) (bitsOf IntKind.u64 (fun p q => p &&& q) (IntKind.u64.wrap (y_ * 2 ^ min (Int.toNat (IntKind.u64.wrap q6_7)) (IntKind.bits IntKind.u64))) (4294967295 : Int))), (11, .dat (.int .u64) (bitsOf IntKind.u64 (fun p q => p ||| q) (IntKind.u64.wrap (hi * 2 ^ min (Int.toNat (IntKind.u64.wrap q6_7)) (IntKind.bits IntKind.u64))) (Int.fdiv lo (2 ^ min (Int.toNat (IntKind.u64.wrap ((64 : Int) - (IntKind.u64.wrap q6_7)))) (IntKind.bits IntKind.u64))))), (13, .dat (.int .u64) (Int.fdiv (IntKind.u64.wrap (lo * 2 ^ min (Int.toNat (IntKind.u64.wrap q6_7)) (IntKind.bits IntKind.u64))) (2 ^ min (Int.toNat (32 : Int)) (IntKind.bits IntKind.u64)))), (14, .dat (.int .u64) (bitsOf IntKind.u64 (fun p q => p &&& q) (IntKind.u64.wrap (lo * 2 ^ min (Int.toNat (IntKind.u64.wrap q6_7)) (IntKind.bits IntKind.u64))) (4294967295 : Int))), (15, .dat (.int .u64) z)], [], 0⟩)]) (loopF (fun go x => f132_l3 lo y_ q6_7 go x.1 x.2)) fuelN ((IntKind.u64.wrap (Int.tdiv (bitsOf IntKind.u64 (fun p q => p ||| q) (IntKind.u64.wrap (hi * 2 ^ min (Int.toNat (IntKind.u64.wrap q6_7)) (IntKind.bits IntKind.u64))) (Int.fdiv lo (2 ^ min (Int.toNat (IntKind.u64.wrap ((64 : Int) - (IntKind.u64.wrap q6_7)))) (IntKind.bits IntKind.u64)))) (Int.fdiv (IntKind.u64.wrap (y_ * 2 ^ min (Int.toNat (IntKind.u64.wrap q6_7)) (IntKind.bits IntKind.u64))) (2 ^ min (Int.toNat (32 : Int)) (IntKind.bits IntKind.u64))))), (IntKind.u64.wrap ((bitsOf IntKind.u64 (fun p q => p ||| q) (IntKind.u64.wrap (hi * 2 ^ min (Int.toNat (IntKind.u64.wrap q6_7)) (IntKind.bits IntKind.u64))) (Int.fdiv lo (2 ^ min (Int.toNat (IntKind.u64.wrap ((64 : Int) - (IntKind.u64.wrap q6_7)))) (IntKind.bits IntKind.u64)))) - (IntKind.u64.wrap ((IntKind.u64.wrap (Int.tdiv (bitsOf IntKind.u64 (fun p q => p ||| q) (IntKind.u64.wrap (hi * 2 ^ min (Int.toNat (IntKind.u64.wrap q6_7)) (IntKind.bits IntKind.u64))) (Int.fdiv lo (2 ^ min (Int.toNat (IntKind.u64.wrap ((64 : Int) - (IntKind.u64.wrap q6_7)))) (IntKind.bits IntKind.u64)))) (Int.fdiv (IntKind.u64.wrap (y_ * 2 ^ min (Int.toNat (IntKind.u64.wrap q6_7)) (IntKind.bits IntKind.u64))) (2 ^ min (Int.toNat (32 : Int)) (IntKind.bits IntKind.u64))))) * (Int.fdiv (IntKind.u64.wrap (y_ * 2 ^ min (Int.toNat (IntKind.u64.wrap q6_7)) (IntKind.bits IntKind.u64))) (2 ^ min (Int.toNat (32 : Int)) (IntKind.bits IntKind.u64)))))))) z3 (And.intro hz3 (And.intro (Exists.intro [] (Exists.intro [] (Exists.intro [] (Exists.intro [] (Exists.intro [] (And.intro rfl (And.intro rfl (And.intro rfl (And.intro rfl (And.intro rfl (And.intro rfl (And.intro rfl (And.intro rfl (And.intro rfl (And.intro rfl (And.intro trivial trivial)))))))))))))))) (And.intro (fun _ _ h => loopZ h) (And.intro (fun m => curI (fun q1 => fun rhat z hF => ?_)) ?_))))
        · have hF : f132_l3 lo y_ q6_7 (loopF (fun go x => f132_l3 lo y_ q6_7 go x.1 x.2) m) q1 rhat = some z := hF
          unfold f132_l3 at hF
          obtain ⟨z4, hz4, hF⟩ := bindE hF
          refine Or.inr ⟨Sum.elim (fun z4a => [(0, ⟨[(2, .dat (.int .u64) (IntKind.u64.wrap (y_ * 2 ^ min (Int.toNat (IntKind.u64.wrap q6_7)) (IntKind.bits IntKind.u64)))), (8, .dat (.int .u64) (IntKind.u64.wrap q6_7)), (9, .dat (.int .u64) (Int.fdiv (IntKind.u64.wrap (y_ * 2 ^ min (Int.toNat (IntKind.u64.wrap q6_7)) (IntKind.bits IntKind.u64))) (2 ^ min (Int.toNat (32 : Int)) (IntKind.bits IntKind.u64)))), (10, .dat (.int .u64) (bitsOf IntKind.u64 (fun p q => p &&& q) (IntKind.u64.wrap (y_ * 2 ^ min (Int.toNat (IntKind.u64.wrap q6_7)) (IntKind.bits IntKind.u64))) (4294967295 : Int))), (11, .dat (.int .u64) (bitsOf IntKind.u64 (fun p q => p ||| q) (IntKind.u64.wrap (hi * 2 ^ min (Int.toNat (IntKind.u64.wrap q6_7)) (IntKind.bits IntKind.u64))) (Int.fdiv lo (2 ^ min (Int.toNat (IntKind.u64.wrap ((64 : Int) - (IntKind.u64.wrap q6_7)))) (IntKind.bits IntKind.u64))))), (13, .dat (.int .u64) (Int.fdiv (IntKind.u64.wrap (lo * 2 ^ min (Int.toNat (IntKind.u64.wrap q6_7)) (IntKind.bits IntKind.u64))) (2 ^ min (Int.toNat (32 : Int)) (IntKind.bits IntKind.u64)))), (14, .dat (.int .u64) (bitsOf IntKind.u64 (fun p q => p &&& q) (IntKind.u64.wrap (lo * 2 ^ min (Int.toNat (IntKind.u64.wrap q6_7)) (IntKind.bits IntKind.u64))) (4294967295 : Int))), (15, .dat (.int .u64) q1), (16, .dat (.int .u64) rhat)], [], 0⟩)]) (fun z4b => [(2, ⟨[(2, .dat (.int .u64) (IntKind.u64.wrap (y_ * 2 ^ min (Int.toNat (IntKind.u64.wrap q6_7)) (IntKind.bits IntKind.u64)))), (8, .dat (.int .u64) (IntKind.u64.wrap q6_7)), (9, .dat (.int .u64) (Int.fdiv (IntKind.u64.wrap (y_ * 2 ^ min (Int.toNat (IntKind.u64.wrap q6_7)) (IntKind.bits IntKind.u64))) (2 ^ min (Int.toNat (32 : Int)) (IntKind.bits IntKind.u64)))), (10, .dat (.int .u64) (bitsOf IntKind.u64 (fun p q => p &&& q) (IntKind.u64.wrap (y_ * 2 ^ min (Int.toNat (IntKind.u64.wrap q6_7)) (IntKind.bits IntKind.u64))) (4294967295 : Int))), (11, .dat (.int .u64) (bitsOf IntKind.u64 (fun p q => p ||| q) (IntKind.u64.wrap (hi * 2 ^ min (Int.toNat (IntKind.u64.wrap q6_7)) (IntKind.bits IntKind.u64))) (Int.fdiv lo (2 ^ min (Int.toNat (IntKind.u64.wrap ((64 : Int) - (IntKind.u64.wrap q6_7)))) (IntKind.bits IntKind.u64))))), (13, .dat (.int .u64) (Int.fdiv (IntKind.u64.wrap (lo * 2 ^ min (Int.toNat (IntKind.u64.wrap q6_7)) (IntKind.bits IntKind.u64))) (2 ^ min (Int.toNat (32 : Int)) (IntKind.bits IntKind.u64)))), (14, .dat (.int .u64) (bitsOf IntKind.u64 (fun p q => p &&& q) (IntKind.u64.wrap (lo * 2 ^ min (Int.toNat (IntKind.u64.wrap q6_7)) (IntKind.bits IntKind.u64))) (4294967295 : Int))), (15, .dat (.int .u64) q1)], [], 0⟩)]) z4, ?_, ?_⟩
          · have hF := hz4
            clear hz4
            unfold f132_j4 at hF
            refine Or.inl ?_
            refine condN hF (fun hF => ?_) (fun hF => ?_)
            · refine gdYF ?_
              refine gdYF ?_
              refine gdYF ?_
              refine gdYF ?_
              refine gdYF ?_
              refine gdYF ?_
              refine gdYF ?_
              refine condF ?_
              refine condI hF (fun hF => ?_) (fun hF => ?_)
              · have hz := someE hF
                subst hz
                refine Exists.intro [] (Exists.intro [] (Exists.intro [] (Exists.intro [] (Exists.intro [] (And.intro rfl (And.intro rfl (And.intro rfl (And.intro rfl (And.intro rfl (And.intro rfl (And.intro rfl (And.intro rfl (And.intro rfl (And.intro rfl (And.intro trivial trivial)))))))))))))))
              · have hz := someE hF
                subst hz
                refine Exists.intro [] (Exists.intro [] (Exists.intro [] (Exists.intro [] (Exists.intro [] (And.intro rfl (And.intro rfl (And.intro rfl (And.intro rfl (And.intro rfl (And.intro rfl (And.intro rfl (And.intro rfl (And.intro rfl (And.intro trivial trivial))))))))))))))
            · refine gdNF ?_
              refine gdNF ?_
              refine gdNF ?_
              refine gdNF ?_
              refine gdNF ?_
              refine gdNF ?_
              refine gdNF ?_
              refine condT ?_
              refine condT ?_
              have hz := someE hF
              subst hz
              refine Exists.intro [] (Exists.intro [] (Exists.intro [] (Exists.intro [] (Exists.intro [] (And.intro rfl (And.intro rfl (And.intro rfl (And.intro rfl (And.intro rfl (And.intro rfl (And.intro rfl (And.intro rfl (And.intro rfl (And.intro rfl (And.intro trivial trivial)))))))))))))))
          · rcases z4 with z4a | z4b
            · dsimp only [sumF] at hF
              refine And.intro ?_ trivial
              refine Or.inl ?_
              refine Or.inl ?_
              refine Or.inl ?_
              refine condI hF (fun hF => ?_) (fun hF => ?_)
              · have hz := someE hF
                subst hz
                refine Exists.intro [] (Exists.intro [] (Exists.intro [] (Exists.intro [] (Exists.intro [] (And.intro rfl (And.intro rfl (And.intro rfl (And.intro rfl (And.intro rfl (And.intro rfl (And.intro rfl (And.intro rfl (And.intro rfl (And.intro trivial trivial))))))))))))))
              · refine Exists.intro ((IntKind.u64.wrap (q1 - (1 : Int))), (IntKind.u64.wrap (rhat + (Int.fdiv (IntKind.u64.wrap (y_ * 2 ^ min (Int.toNat (IntKind.u64.wrap q6_7)) (IntKind.bits IntKind.u64))) (2 ^ min (Int.toNat (32 : Int)) (IntKind.bits IntKind.u64)))))) (And.intro hF (Exists.intro [] (Exists.intro [] (Exists.intro [] (Exists.intro [] (Exists.intro [] (And.intro rfl (And.intro rfl (And.intro rfl (And.intro rfl (And.intro rfl (And.intro rfl (And.intro rfl (And.intro rfl (And.intro rfl (And.intro rfl (And.intro trivial trivial)))))))))))))))))
            · dsimp only [sumF] at hF
              refine And.intro ?_ trivial
              have hz := someE hF
              subst hz
              refine Exists.intro [] (Exists.intro [] (Exists.intro [] (Exists.intro [] (Exists.intro [] (And.intro rfl (And.intro rfl (And.intro rfl (And.intro rfl (And.intro rfl (And.intro rfl (And.intro rfl (And.intro rfl (And.intro rfl (And.intro trivial trivial))))))))))))))
        · refine And.intro ?_ trivial
          refine Or.inl ?_
          refine Or.inl ?_
          refine guardI hF (fun hF => ?_)
          refine Or.inl ?_
          refine Or.inl ?_
          obtain ⟨z7, hz7, hF⟩ := bindE hF
          refine loopI (Int × Int) Int (fun x => ⟨[(2, .dat (.int .u64) (IntKind.u64.wrap (y_ * 2 ^ min (Int.toNat (IntKind.u64.wrap q6_7)) (IntKind.bits IntKind.u64)))), (8, .dat (.int .u64) (IntKind.u64.wrap q6_7)), (9, .dat (.int .u64) (Int.fdiv (IntKind.u64.wrap (y_ * 2 ^ min (Int.toNat (IntKind.u64.wrap q6_7)) (IntKind.bits IntKind.u64))) (2 ^ min (Int.toNat (32 : Int)) (IntKind.bits IntKind.u64)))), (10, .dat (.int .u64) (bitsOf IntKind.u64 (fun p q => p &&& q) (IntKind.u64.wrap (y_ * 2 ^ min (Int.toNat (IntKind.u64.wrap q6_7)) (IntKind.bits IntKind.u64))) (4294967295 : Int))), (14, .dat (.int .u64) (bitsOf IntKind.u64 (fun p q => p &&& q) (IntKind.u64.wrap (lo * 2 ^ min (Int.toNat (IntKind.u64.wrap q6_7)) (IntKind.bits IntKind.u64))) (4294967295 : Int))), (15, .dat (.int .u64) z3), (16, .dat (.int .u64) x.1), (17, .dat (.int .u64) (IntKind.u64.wrap ((IntKind.u64.wrap ((IntKind.u64.wrap ((bitsOf IntKind.u64 (fun p q => p ||| q) (IntKind.u64.wrap (hi * 2 ^ min (Int.toNat (IntKind.u64.wrap q6_7)) (IntKind.bits IntKind.u64))) (Int.fdiv lo (2 ^ min (Int.toNat (IntKind.u64.wrap ((64 : Int) - (IntKind.u64.wrap q6_7)))) (IntKind.bits IntKind.u64)))) * (4294967296 : Int))) + (Int.fdiv (IntKind.u64.wrap (lo * 2 ^ min (Int.toNat (IntKind.u64.wrap q6_7)) (IntKind.bits IntKind.u64))) (2 ^ min (Int.toNat (32 : Int)) (IntKind.bits IntKind.u64))))) - (IntKind.u64.wrap (z3 * (IntKind.u64.wrap (y_ * 2 ^ min (Int.toNat (IntKind.u64.wrap q6_7)) (IntKind.bits IntKind.u64)))))))), (18, .dat (.int .u64) x.2)], [], 0⟩) (fun z => [(4, ⟨[(2, .dat (.int .u64) (IntKind.u64.wrap (y_ * 2 ^ min (Int.toNat (IntKind.u64.wrap q6_7)) (IntKind.bits IntKind.u64)))), (8, .dat (.int .u64) (IntKind.u64.wrap q6_7)), (14, .dat (.int .u64) (bitsOf IntKind.u64 (fun p q => p &&& q) (IntKind.u64.wrap (lo * 2 ^ min (Int.toNat (IntKind.u64.wrap q6_7)) (IntKind.bits IntKind.u64))) (4294967295 : Int))), (15, .dat (.int .u64) z3), (17, .dat (.int .u64) (IntKind.u64.wrap ((IntKind.u64.wrap ((IntKind.u64.wrap ((bitsOf IntKind.u64 (fun p q => p ||| q) (IntKind.u64.wrap (hi * 2 ^ min (Int.toNat (IntKind.u64.wrap q6_7)) (IntKind.bits IntKind.u64))) (Int.fdiv lo (2 ^ min (Int.toNat (IntKind.u64.wrap ((64 : Int) - (IntKind.u64.wrap q6_7)))) (IntKind.bits IntKind.u64)))) * (4294967296 : Int))) + (Int.fdiv (IntKind.u64.wrap (lo * 2 ^ min (Int.toNat (IntKind.u64.wrap q6_7)) (IntKind.bits IntKind.u64))) (2 ^ min (Int.toNat (32 : Int)) (IntKind.bits IntKind.u64))))) - (IntKind.u64.wrap (z3 * (IntKind.u64.wrap (y_ * 2 ^ min (Int.toNat (IntKind.u64.wrap q6_7)) (IntKind.bits IntKind.u64)))))))), (18, .dat (.int .u64) z)], [], 0⟩)]) (loopF (fun go x => f132_l7 lo y_ q6_7 go x.1 x.2)) fuelN ((IntKind.u64.wrap ((IntKind.u64.wrap ((IntKind.u64.wrap ((IntKind.u64.wrap ((bitsOf IntKind.u64 (fun p q => p ||| q) (IntKind.u64.wrap (hi * 2 ^ min (Int.toNat (IntKind.u64.wrap q6_7)) (IntKind.bits IntKind.u64))) (Int.fdiv lo (2 ^ min (Int.toNat (IntKind.u64.wrap ((64 : Int) - (IntKind.u64.wrap q6_7)))) (IntKind.bits IntKind.u64)))) * (4294967296 : Int))) + (Int.fdiv (IntKind.u64.wrap (lo * 2 ^ min (Int.toNat (IntKind.u64.wrap q6_7)) (IntKind.bits IntKind.u64))) (2 ^ min (Int.toNat (32 : Int)) (IntKind.bits IntKind.u64))))) - (IntKind.u64.wrap (z3 * (IntKind.u64.wrap (y_ * 2 ^ min (Int.toNat (IntKind.u64.wrap q6_7)) (IntKind.bits IntKind.u64))))))) - (IntKind.u64.wrap ((IntKind.u64.wrap (Int.tdiv (IntKind.u64.wrap ((IntKind.u64.wrap ((IntKind.u64.wrap ((bitsOf IntKind.u64 (fun p q => p ||| q) (IntKind.u64.wrap (hi * 2 ^ min (Int.toNat (IntKind.u64.wrap q6_7)) (IntKind.bits IntKind.u64))) (Int.fdiv lo (2 ^ min (Int.toNat (IntKind.u64.wrap ((64 : Int) - (IntKind.u64.wrap q6_7)))) (IntKind.bits IntKind.u64)))) * (4294967296 : Int))) + (Int.fdiv (IntKind.u64.wrap (lo * 2 ^ min (Int.toNat (IntKind.u64.wrap q6_7)) (IntKind.bits IntKind.u64))) (2 ^ min (Int.toNat (32 : Int)) (IntKind.bits IntKind.u64))))) - (IntKind.u64.wrap (z3 * (IntKind.u64.wrap (y_ * 2 ^ min (Int.toNat (IntKind.u64.wrap q6_7)) (IntKind.bits IntKind.u64))))))) (Int.fdiv (IntKind.u64.wrap (y_ * 2 ^ min (Int.toNat (IntKind.u64.wrap q6_7)) (IntKind.bits IntKind.u64))) (2 ^ min (Int.toNat (32 : Int)) (IntKind.bits IntKind.u64))))) * (Int.fdiv (IntKind.u64.wrap (y_ * 2 ^ min (Int.toNat (IntKind.u64.wrap q6_7)) (IntKind.bits IntKind.u64))) (2 ^ min (Int.toNat (32 : Int)) (IntKind.bits IntKind.u64))))))), (IntKind.u64.wrap (Int.tdiv (IntKind.u64.wrap ((IntKind.u64.wrap ((IntKind.u64.wrap ((bitsOf IntKind.u64 (fun p q => p ||| q) (IntKind.u64.wrap (hi * 2 ^ min (Int.toNat (IntKind.u64.wrap q6_7)) (IntKind.bits IntKind.u64))) (Int.fdiv lo (2 ^ min (Int.toNat (IntKind.u64.wrap ((64 : Int) - (IntKind.u64.wrap q6_7)))) (IntKind.bits IntKind.u64)))) * (4294967296 : Int))) + (Int.fdiv (IntKind.u64.wrap (lo * 2 ^ min (Int.toNat (IntKind.u64.wrap q6_7)) (IntKind.bits IntKind.u64))) (2 ^ min (Int.toNat (32 : Int)) (IntKind.bits IntKind.u64))))) - (IntKind.u64.wrap (z3 * (IntKind.u64.wrap (y_ * 2 ^ min (Int.toNat (IntKind.u64.wrap q6_7)) (IntKind.bits IntKind.u64))))))) (Int.fdiv (IntKind.u64.wrap (y_ * 2 ^ min (Int.toNat (IntKind.u64.wrap q6_7)) (IntKind.bits IntKind.u64))) (2 ^ min (Int.toNat (32 : Int)) (IntKind.bits IntKind.u64)))))) z7 (And.intro hz7 (And.intro (Exists.intro [] (Exists.intro [] (Exists.intro [] (Exists.intro [] (Exists.intro [] (And.intro rfl (And.intro rfl (And.intro rfl (And.intro rfl (And.intro rfl (And.intro rfl (And.intro rfl (And.intro rfl (And.intro rfl (And.intro rfl (And.intro trivial trivial)))))))))))))))) (And.intro (fun _ _ h => loopZ h) (And.intro (fun m => curI (fun rhat => fun q0 z hF => ?_)) ?_))))
          · have hF : f132_l7 lo y_ q6_7 (loopF (fun go x => f132_l7 lo y_ q6_7 go x.1 x.2) m) rhat q0 = some z := hF
            unfold f132_l7 at hF
            obtain ⟨z8, hz8, hF⟩ := bindE hF
            refine Or.inr ⟨Sum.elim (fun z8a => [(0, ⟨[(2, .dat (.int .u64) (IntKind.u64.wrap (y_ * 2 ^ min (Int.toNat (IntKind.u64.wrap q6_7)) (IntKind.bits IntKind.u64)))), (8, .dat (.int .u64) (IntKind.u64.wrap q6_7)), (9, .dat (.int .u64) (Int.fdiv (IntKind.u64.wrap (y_ * 2 ^ min (Int.toNat (IntKind.u64.wrap q6_7)) (IntKind.bits IntKind.u64))) (2 ^ min (Int.toNat (32 : Int)) (IntKind.bits IntKind.u64)))), (10, .dat (.int .u64) (bitsOf IntKind.u64 (fun p q => p &&& q) (IntKind.u64.wrap (y_ * 2 ^ min (Int.toNat (IntKind.u64.wrap q6_7)) (IntKind.bits IntKind.u64))) (4294967295 : Int))), (14, .dat (.int .u64) (bitsOf IntKind.u64 (fun p q => p &&& q) (IntKind.u64.wrap (lo * 2 ^ min (Int.toNat (IntKind.u64.wrap q6_7)) (IntKind.bits IntKind.u64))) (4294967295 : Int))), (15, .dat (.int .u64) z3), (16, .dat (.int .u64) rhat), (17, .dat (.int .u64) (IntKind.u64.wrap ((IntKind.u64.wrap ((IntKind.u64.wrap ((bitsOf IntKind.u64 (fun p q => p ||| q) (IntKind.u64.wrap (hi * 2 ^ min (Int.toNat (IntKind.u64.wrap q6_7)) (IntKind.bits IntKind.u64))) (Int.fdiv lo (2 ^ min (Int.toNat (IntKind.u64.wrap ((64 : Int) - (IntKind.u64.wrap q6_7)))) (IntKind.bits IntKind.u64)))) * (4294967296 : Int))) + (Int.fdiv (IntKind.u64.wrap (lo * 2 ^ min (Int.toNat (IntKind.u64.wrap q6_7)) (IntKind.bits IntKind.u64))) (2 ^ min (Int.toNat (32 : Int)) (IntKind.bits IntKind.u64))))) - (IntKind.u64.wrap (z3 * (IntKind.u64.wrap (y_ * 2 ^ min (Int.toNat (IntKind.u64.wrap q6_7)) (IntKind.bits IntKind.u64)))))))), (18, .dat (.int .u64) q0)], [], 0⟩)]) (fun z8b => [(4, ⟨[(2, .dat (.int .u64) (IntKind.u64.wrap (y_ * 2 ^ min (Int.toNat (IntKind.u64.wrap q6_7)) (IntKind.bits IntKind.u64)))), (8, .dat (.int .u64) (IntKind.u64.wrap q6_7)), (14, .dat (.int .u64) (bitsOf IntKind.u64 (fun p q => p &&& q) (IntKind.u64.wrap (lo * 2 ^ min (Int.toNat (IntKind.u64.wrap q6_7)) (IntKind.bits IntKind.u64))) (4294967295 : Int))), (15, .dat (.int .u64) z3), (17, .dat (.int .u64) (IntKind.u64.wrap ((IntKind.u64.wrap ((IntKind.u64.wrap ((bitsOf IntKind.u64 (fun p q => p ||| q) (IntKind.u64.wrap (hi * 2 ^ min (Int.toNat (IntKind.u64.wrap q6_7)) (IntKind.bits IntKind.u64))) (Int.fdiv lo (2 ^ min (Int.toNat (IntKind.u64.wrap ((64 : Int) - (IntKind.u64.wrap q6_7)))) (IntKind.bits IntKind.u64)))) * (4294967296 : Int))) + (Int.fdiv (IntKind.u64.wrap (lo * 2 ^ min (Int.toNat (IntKind.u64.wrap q6_7)) (IntKind.bits IntKind.u64))) (2 ^ min (Int.toNat (32 : Int)) (IntKind.bits IntKind.u64))))) - (IntKind.u64.wrap (z3 * (IntKind.u64.wrap (y_ * 2 ^ min (Int.toNat (IntKind.u64.wrap q6_7)) (IntKind.bits IntKind.u64)))))))), (18, .dat (.int .u64) q0)], [], 0⟩)]) z8, ?_, ?_⟩
            · have hF := hz8
              clear hz8
              unfold f132_j8 at hF
              refine Or.inl ?_
              refine condN hF (fun hF => ?_) (fun hF => ?_)
              · refine gdYF ?_
                refine gdYF ?_
                refine gdYF ?_
                refine gdYF ?_
                refine gdYF ?_
                refine gdYF ?_
                refine gdYF ?_
                refine condF ?_
                refine condI hF (fun hF => ?_) (fun hF => ?_)
                · have hz := someE hF
                  subst hz
                  refine Exists.intro [] (Exists.intro [] (Exists.intro [] (Exists.intro [] (Exists.intro [] (And.intro rfl (And.intro rfl (And.intro rfl (And.intro rfl (And.intro rfl (And.intro rfl (And.intro rfl (And.intro rfl (And.intro rfl (And.intro rfl (And.intro trivial trivial)))))))))))))))
                · have hz := someE hF
                  subst hz
                  refine Exists.intro [] (Exists.intro [] (Exists.intro [] (Exists.intro [] (Exists.intro [] (And.intro rfl (And.intro rfl (And.intro rfl (And.intro rfl (And.intro rfl (And.intro rfl (And.intro rfl (And.intro trivial trivial))))))))))))
              · refine gdNF ?_
                refine gdNF ?_
                refine gdNF ?_
                refine gdNF ?_
                refine gdNF ?_
                refine gdNF ?_
                refine gdNF ?_
                refine condT ?_
                refine condT ?_
                have hz := someE hF
                subst hz
                refine Exists.intro [] (Exists.intro [] (Exists.intro [] (Exists.intro [] (Exists.intro [] (And.intro rfl (And.intro rfl (And.intro rfl (And.intro rfl (And.intro rfl (And.intro rfl (And.intro rfl (And.intro rfl (And.intro rfl (And.intro rfl (And.intro trivial trivial)))))))))))))))
            · rcases z8 with z8a | z8b
              · dsimp only [sumF] at hF
                refine And.intro ?_ trivial
                refine Or.inl ?_
                refine Or.inl ?_
                refine Or.inl ?_
                refine condI hF (fun hF => ?_) (fun hF => ?_)
                · have hz := someE hF
                  subst hz
                  refine Exists.intro [] (Exists.intro [] (Exists.intro [] (Exists.intro [] (Exists.intro [] (And.intro rfl (And.intro rfl (And.intro rfl (And.intro rfl (And.intro rfl (And.intro rfl (And.intro rfl (And.intro trivial trivial))))))))))))
                · refine Exists.intro ((IntKind.u64.wrap (rhat + (Int.fdiv (IntKind.u64.wrap (y_ * 2 ^ min (Int.toNat (IntKind.u64.wrap q6_7)) (IntKind.bits IntKind.u64))) (2 ^ min (Int.toNat (32 : Int)) (IntKind.bits IntKind.u64))))), (IntKind.u64.wrap (q0 - (1 : Int)))) (And.intro hF (Exists.intro [] (Exists.intro [] (Exists.intro [] (Exists.intro [] (Exists.intro [] (And.intro rfl (And.intro rfl (And.intro rfl (And.intro rfl (And.intro rfl (And.intro rfl (And.intro rfl (And.intro rfl (And.intro rfl (And.intro rfl (And.intro trivial trivial)))))))))))))))))
              · dsimp only [sumF] at hF
                refine And.intro ?_ trivial
                have hz := someE hF
                subst hz
                refine Exists.intro [] (Exists.intro [] (Exists.intro [] (Exists.intro [] (Exists.intro [] (And.intro rfl (And.intro rfl (And.intro rfl (And.intro rfl (And.intro rfl (And.intro rfl (And.intro rfl (And.intro trivial trivial))))))))))))
          · refine And.intro ?_ trivial
            refine Or.inl ?_
            refine guardI hF (fun hF => ?_)
            have hy := someE hF
            subst hy
            refine And.intro rfl (Exists.intro [] (Exists.intro [] (Exists.intro [] (Exists.intro [] (Exists.intro [] (And.intro rfl (And.intro rfl (And.intro rfl (And.intro trivial trivial)))))))))
theorem C132_holds : C132.Holds Tryz.prog 132 := holds_of_vc tab_ok mixed (fn := Tryz.f132) (by kernel_rfl) rfl C132 (fun x y hF => C132_vc x.1 x.2.1 x.2.2 y hF)
theorem f132_in : ∃ fn, Tryz.prog.funcs[132]? = some fn ∧ fn.body.isSome = true ∧ (fn.name == "runtime.NumGoroutine") = false := ⟨Tryz.f132, by kernel_rfl, by kernel_rfl, by kernel_rfl⟩
end Go.Proofs
namespace Go.Proofs
open Go.AM
-- carousel/fix.Div
def f128_j3 (r2 : Int) (r4 : Int × Int) : Option Bool :=
  bif (decide (r4.2 > (IntKind.u64.wrap (r2 - r4.2)))) then
    some true
  else
    bif (r4.2 == (IntKind.u64.wrap (r2 - r4.2))) then
      some ((bitsOf IntKind.u64 (fun p q => p &&& q) r4.1 (1 : Int)) == (1 : Int))
    else
      some false
def f128_j2 (r2 : Int) (r4 : Int × Int) : Option (Int × Int) :=
  bindF (f128_j3 r2 r4) fun z8 =>
  bif z8 then
    bindF (add64 r4.1 (1 : Int) (0 : Int)) fun r9 =>
    some (r9.1, r9.2)
  else
    some (r4.1, (0 : Int))
def f128 (a : Int) (b : Int) : Option Int :=
  bif (b == (0 : Int)) then
    bif (decide (a > (0 : Int))) then
      some (9223372036854775807 : Int)
    else
      bif (decide (a < (0 : Int))) then
        some (-9223372036854775808 : Int)
      else
        some (0 : Int)
  else
    bindF (f96 a) fun r1 =>
    bindF (f96 b) fun r2 =>
    bif (decide ((Int.fdiv r1 (2 ^ min (Int.toNat (32 : Int)) (IntKind.bits IntKind.u64))) ≥ r2)) then
      bindF (f97 (1 : Int) (0 : Int) (!((decide (a < (0 : Int))) == (decide (b < (0 : Int)))))) fun r3 =>
      some r3
    else
      bindF (f132 (Int.fdiv r1 (2 ^ min (Int.toNat (32 : Int)) (IntKind.bits IntKind.u64))) (IntKind.u64.wrap (r1 * 2 ^ min (Int.toNat (32 : Int)) (IntKind.bits IntKind.u64))) r2) fun r4 =>
      bindF (f128_j2 r2 r4) fun z7 =>
      bindF (f97 z7.2 z7.1 (!((decide (a < (0 : Int))) == (decide (b < (0 : Int)))))) fun r10 =>
      some r10
def C128 : Con where
  X := Int × Int
  Y := Int
  e := 0
  args x := [.dat (.int .i64) x.1, .dat (.int .i64) x.2]
  hin x := []
  F x := f128 x.1 x.2
  ret y := [.dat (.int .i64) y]
  hout y := []
  nout := 0
theorem C128_vc (a : Int) (b : Int) (y : Int) (hF : f128 a b = some y) : vc Tryz.prog tab Tryz.f128.ntmps 0 (match Tryz.f128.body with | some c => c | none => .skip) (retK tab C128 Tryz.f128.results.toList y) (C128.shIn (a, b)).st := by
  unfold f128 at hF
  refine Or.inl ?_
  refine Or.inl ?_
  refine Or.inl ?_
  refine condI hF (fun hF => ?_) (fun hF => ?_)
  · refine Or.inl ?_
    refine Or.inl ?_
    refine condI hF (fun hF => ?_) (fun hF => ?_)
    · refine Or.inl ?_
      have hy := someE hF
      subst hy
      refine And.intro rfl (Exists.intro [] (Exists.intro [] (Exists.intro [] (Exists.intro [] (Exists.intro [] (And.intro rfl (And.intro rfl (And.intro trivial trivial))))))))
    · refine Or.inl ?_
      refine condI hF (fun hF => ?_) (fun hF => ?_)
      · refine Or.inl ?_
        have hy := someE hF
        subst hy
        refine And.intro rfl (Exists.intro [] (Exists.intro [] (Exists.intro [] (Exists.intro [] (Exists.intro [] (And.intro rfl (And.intro rfl (And.intro trivial trivial))))))))
      · refine Or.inl ?_
        have hy := someE hF
        subst hy
        refine And.intro rfl (Exists.intro [] (Exists.intro [] (Exists.intro [] (Exists.intro [] (Exists.intro [] (And.intro rfl (And.intro rfl (And.intro trivial trivial))))))))
  · refine Or.inl ?_
    obtain ⟨r1, hr1, hF⟩ := bindE hF
    refine Or.inl (And.intro f96_in (callV0 (callI C96 a r1 [] false C96_holds hr1 rfl rfl ?_)))
    refine (And.intro rfl (And.intro (fun h => nomatch h) (And.intro rfl (And.intro rfl (And.intro trivial (And.intro trivial ?_))))))
    obtain ⟨r2, hr2, hF⟩ := bindE hF
    refine Or.inl (And.intro f96_in (callV0 (callI C96 b r2 [] false C96_holds hr2 rfl rfl ?_)))
    refine (And.intro rfl (And.intro (fun h => nomatch h) (And.intro rfl (And.intro rfl (And.intro trivial (And.intro trivial ?_))))))
    refine Or.inl ?_
    refine Or.inl ?_
    refine And.intro (by decide) ?_
    refine And.intro (by decide) ?_
    refine Or.inl ?_
    refine Or.inl ?_
    refine condI hF (fun hF => ?_) (fun hF => ?_)
    · refine Or.inl ?_
      obtain ⟨r3, hr3, hF⟩ := bindE hF
      refine Or.inl (And.intro f97_in (callV0 (callI C97 ((1 : Int), (0 : Int), (!((decide (a < (0 : Int))) == (decide (b < (0 : Int)))))) r3 [] false C97_holds hr3 rfl rfl ?_)))
      refine (And.intro rfl (And.intro rfl (And.intro rfl (And.intro (fun h => nomatch h) (And.intro rfl (And.intro rfl (And.intro trivial (And.intro trivial ?_))))))))
      have hy := someE hF
      subst hy
      refine And.intro rfl (Exists.intro [] (Exists.intro [] (Exists.intro [] (Exists.intro [] (Exists.intro [] (And.intro rfl (And.intro rfl (And.intro trivial trivial))))))))
    · refine Or.inl ?_
      obtain ⟨r4, hr4, hF⟩ := bindE hF
      refine Or.inl (And.intro f132_in (callV0 (callI C132 ((Int.fdiv r1 (2 ^ min (Int.toNat (32 : Int)) (IntKind.bits IntKind.u64))), (IntKind.u64.wrap (r1 * 2 ^ min (Int.toNat (32 : Int)) (IntKind.bits IntKind.u64))), r2) r4 [] false C132_holds hr4 rfl rfl ?_)))
      refine (And.intro rfl (And.intro rfl (And.intro rfl (And.intro (fun h => nomatch h) (And.intro rfl (And.intro rfl (And.intro trivial (And.intro trivial ?_))))))))
      refine Or.inl ?_
      obtain ⟨z7, hz7, hF⟩ := bindE hF
      refine Or.inr ⟨[(0, ⟨[(7, .dat .bool (!((decide (a < (0 : Int))) == (decide (b < (0 : Int)))))), (10, .dat (.int .u64) z7.1), (12, .dat (.int .u64) z7.2)], [], 0⟩)], ?_, ?_⟩
      · have hF := hz7
        clear hz7
        unfold f128_j2 at hF
        obtain ⟨z8, hz8, hF⟩ := bindE hF
        refine Or.inr ⟨[(0, ⟨[(7, .dat .bool (!((decide (a < (0 : Int))) == (decide (b < (0 : Int)))))), (10, .dat (.int .u64) r4.1), (12, .dat (.int .u64) (0 : Int)), (62, .dat .bool z8)], [], 0⟩)], ?_, ?_⟩
        · have hF := hz8
          clear hz8
          unfold f128_j3 at hF
          refine condN hF (fun hF => ?_) (fun hF => ?_)
          · refine gdYF ?_
            refine gdYF ?_
            refine gdYF ?_
            refine gdYF ?_
            refine gdYF ?_
            refine condI hF (fun hF => ?_) (fun hF => ?_)
            · refine gdYT ?_
              refine gdYT ?_
              refine gdYF ?_
              refine condT ?_
              refine condF ?_
              have hz := someE hF
              subst hz
              refine Exists.intro [] (Exists.intro [] (Exists.intro [] (Exists.intro [] (Exists.intro [] (And.intro rfl (And.intro rfl (And.intro rfl (And.intro rfl (And.intro rfl (And.intro trivial trivial))))))))))
            · refine gdNT ?_
              refine gdNT ?_
              refine gdYF ?_
              refine condF ?_
              refine condF ?_
              have hz := someE hF
              subst hz
              refine Exists.intro [] (Exists.intro [] (Exists.intro [] (Exists.intro [] (Exists.intro [] (And.intro rfl (And.intro rfl (And.intro rfl (And.intro rfl (And.intro rfl (And.intro trivial trivial))))))))))
          · refine gdNF ?_
            refine gdNF ?_
            refine gdNF ?_
            refine gdNF ?_
            refine gdNF ?_
            refine gdNF ?_
            refine condT ?_
            have hz := someE hF
            subst hz
            refine Exists.intro [] (Exists.intro [] (Exists.intro [] (Exists.intro [] (Exists.intro [] (And.intro rfl (And.intro rfl (And.intro rfl (And.intro rfl (And.intro rfl (And.intro trivial trivial))))))))))
        · refine And.intro ?_ trivial
          refine condI hF (fun hF => ?_) (fun hF => ?_)
          · obtain ⟨r9, hr9, hF⟩ := bindE hF
            refine Or.inr ⟨ext3 add64, [r9.1, r9.2], add64_ok, And.intro (ext3I hr9) ?_⟩
            have hz := someE hF
            subst hz
            refine Exists.intro [] (Exists.intro [] (Exists.intro [] (Exists.intro [] (Exists.intro [] (And.intro rfl (And.intro rfl (And.intro rfl (And.intro rfl (And.intro trivial trivial)))))))))
          · have hz := someE hF
            subst hz
            refine Exists.intro [] (Exists.intro [] (Exists.intro [] (Exists.intro [] (Exists.intro [] (And.intro rfl (And.intro rfl (And.intro rfl (And.intro rfl (And.intro trivial trivial)))))))))
      · refine And.intro ?_ trivial
        refine Or.inl ?_
        obtain ⟨r10, hr10, hF⟩ := bindE hF
        refine Or.inl (And.intro f97_in (callV0 (callI C97 (z7.2, z7.1, (!((decide (a < (0 : Int))) == (decide (b < (0 : Int)))))) r10 [] false C97_holds hr10 rfl rfl ?_)))
        refine (And.intro rfl (And.intro rfl (And.intro rfl (And.intro (fun h => nomatch h) (And.intro rfl (And.intro rfl (And.intro trivial (And.intro trivial ?_))))))))
        have hy := someE hF
        subst hy
        refine And.intro rfl (Exists.intro [] (Exists.intro [] (Exists.intro [] (Exists.intro [] (Exists.intro [] (And.intro rfl (And.intro rfl (And.intro trivial trivial))))))))
theorem C128_holds : C128.Holds Tryz.prog 128 := holds_of_vc tab_ok mixed (fn := Tryz.f128) (by kernel_rfl) rfl C128 (fun x y hF => C128_vc x.1 x.2 y hF)
theorem f128_in : ∃ fn, Tryz.prog.funcs[128]? = some fn ∧ fn.body.isSome = true ∧ (fn.name == "runtime.NumGoroutine") = false := ⟨Tryz.f128, by kernel_rfl, by kernel_rfl, by kernel_rfl⟩
end Go.Proofs
namespace Go.Proofs
open Go.AM
-- carousel/wide.magnitude
def f130 (a : Int × Int) : Option (Int × Int × Bool) :=
  bif (decide (a.1 < (0 : Int))) then
    bindF (f134 (a.1, a.2)) fun q4_7 =>
    some ((IntKind.u64.wrap q4_7.1), q4_7.2, true)
  else
    some ((IntKind.u64.wrap a.1), a.2, false)
def C130 : Con where
  X := Int × Int
  Y := Int × Int × Bool
  e := 0
  args x := [.dat (.p (.int .i64) (.int .u64)) x]
  hin x := []
  F x := f130 x
  ret y := [.dat (.int .u64) y.1, .dat (.int .u64) y.2.1, .dat .bool y.2.2]
  hout y := []
  nout := 0
theorem C130_vc (a : Int × Int) (y : Int × Int × Bool) (hF : f130 a = some y) : vc Tryz.prog tab Tryz.f130.ntmps 0 (match Tryz.f130.body with | some c => c | none => .skip) (retK tab C130 Tryz.f130.results.toList y) (C130.shIn a).st := by
  unfold f130 at hF
  refine Or.inl ?_
  refine Or.inl ?_
  refine Or.inl ?_
  refine condI hF (fun hF => ?_) (fun hF => ?_)
  · refine Or.inl ?_
    obtain ⟨q4_7, hq4_7, hF⟩ := bindE hF
    refine Or.inl (And.intro f134_in (callV0 (callI C134 (a.1, a.2) q4_7 [] false C134_holds hq4_7 rfl rfl ?_)))
    refine (And.intro rfl (And.intro rfl (And.intro (fun h => nomatch h) (And.intro rfl (And.intro rfl (And.intro trivial (And.intro trivial ?_)))))))
    refine Or.inl ?_
    refine Or.inl ?_
    refine Exists.intro (.take 0 (.take 1 (.take 2 (.take 3 (.take 4 (.take 5 (.take 6 (.take 7 .done)))))))) (Exists.intro [] (Exists.intro [] (And.intro rfl ?_)))
    have hy := someE hF
    subst hy
    refine And.intro rfl (Exists.intro [] (Exists.intro [] (Exists.intro [] (Exists.intro [] (Exists.intro [] (And.intro rfl (And.intro rfl (And.intro rfl (And.intro rfl (And.intro trivial trivial))))))))))
  · refine Or.inl ?_
    refine Exists.intro (.take 0 (.take 1 (.take 2 (.take 3 (.take 4 (.take 5 (.take 6 (.take 7 .done)))))))) (Exists.intro [] (Exists.intro [] (And.intro rfl ?_)))
    have hy := someE hF
    subst hy
    refine And.intro rfl (Exists.intro [] (Exists.intro [] (Exists.intro [] (Exists.intro [] (Exists.intro [] (And.intro rfl (And.intro rfl (And.intro rfl (And.intro rfl (And.intro trivial trivial))))))))))
theorem C130_holds : C130.Holds Tryz.prog 130 := holds_of_vc tab_ok mixed (fn := Tryz.f130) (by kernel_rfl) rfl C130 (fun x y hF => C130_vc x y hF)
theorem f130_in : ∃ fn, Tryz.prog.funcs[130]? = some fn ∧ fn.body.isSome = true ∧ (fn.name == "runtime.NumGoroutine") = false := ⟨Tryz.f130, by kernel_rfl, by kernel_rfl, by kernel_rfl⟩
end Go.Proofs
namespace Go.Proofs
open Go.AM
-- carousel/wide.Over
def f98_j3 (r4 : Int) (q6_7 : Int × Int) : Option Bool :=
  bif (decide (q6_7.2 > (IntKind.u64.wrap (r4 - q6_7.2)))) then
    some true
  else
    bif (q6_7.2 == (IntKind.u64.wrap (r4 - q6_7.2))) then
      some ((bitsOf IntKind.u64 (fun p q => p &&& q) q6_7.1 (1 : Int)) == (1 : Int))
    else
      some false
def f98_j2 (r3 : Int × Int × Bool) (r4 : Int) (q6_7 : Int × Int) : Option (Int × Int) :=
  bindF (f98_j3 r4 q6_7) fun z8 =>
  bif z8 then
    bindF (add64 q6_7.1 (1 : Int) (0 : Int)) fun r9 =>
    some ((IntKind.u64.wrap ((IntKind.u64.wrap (Int.tdiv r3.1 r4)) + r9.2)), r9.1)
  else
    some ((IntKind.u64.wrap (Int.tdiv r3.1 r4)), q6_7.1)
def f98 (a : Int × Int) (n : Int) : Option Int :=
  bif (n == (0 : Int)) then
    bindF (f129 (a.1, a.2) ((0 : Int), (0 : Int))) fun r1 =>
    bindF (f128 r1 (0 : Int)) fun r2 =>
    some r2
  else
    bindF (f130 (a.1, a.2)) fun r3 =>
    bindF (f131 n) fun r4 =>
    guardF (r4 ≠ 0) <|
    guardF (r4 ≠ 0) <|
    bindF (f132 (Int.tmod r3.1 r4) r3.2.1 r4) fun q6_7 =>
    bindF (f98_j2 r3 r4 q6_7) fun z7 =>
    bif (!(r3.2.2 == (decide (n < (0 : Int))))) then
      bindF (f134 ((IntKind.i64.wrap (if (9223372036854775807 : Int) < z7.1 then (9223372036854775807 : Int) else z7.1)), z7.2)) fun r10 =>
      bindF (f133 (r10.1, r10.2)) fun r11 =>
      some r11
    else
      bindF (f133 ((IntKind.i64.wrap (if (9223372036854775807 : Int) < z7.1 then (9223372036854775807 : Int) else z7.1)), z7.2)) fun r12 =>
      some r12
def C98 : Con where
  X := (Int × Int) × Int
  Y := Int
  e := 0
  args x := [.dat (.p (.int .i64) (.int .u64)) x.1, .dat (.int .i64) x.2]
  hin x := []
  F x := f98 x.1 x.2
  ret y := [.dat (.int .i64) y]
  hout y := []
  nout := 0
theorem C98_vc (a : Int × Int) (n : Int) (y : Int) (hF : f98 a n = some y) : vc Tryz.prog tab Tryz.f98.ntmps 0 (match Tryz.f98.body with | some c => c | none => .skip) (retK tab C98 Tryz.f98.results.toList y) (C98.shIn (a, n)).st := by
  unfold f98 at hF
  refine Or.inl ?_
  refine Or.inl ?_
  refine Or.inl ?_
  refine condI hF (fun hF => ?_) (fun hF => ?_)
  · refine Or.inl ?_
    obtain ⟨r1, hr1, hF⟩ := bindE hF
    refine Or.inl (And.intro f129_in (callV0 (callI C129 ((a.1, a.2), ((0 : Int), (0 : Int))) r1 [] false C129_holds hr1 rfl rfl ?_)))
    refine (And.intro rfl (And.intro rfl (And.intro rfl (And.intro rfl (And.intro (fun h => nomatch h) (And.intro rfl (And.intro rfl (And.intro trivial (And.intro trivial ?_)))))))))
    obtain ⟨r2, hr2, hF⟩ := bindE hF
    refine Or.inl (And.intro f128_in (callV0 (callI C128 (r1, (0 : Int)) r2 [] false C128_holds hr2 rfl rfl ?_)))
    refine (And.intro rfl (And.intro rfl (And.intro (fun h => nomatch h) (And.intro rfl (And.intro rfl (And.intro trivial (And.intro trivial ?_)))))))
    have hy := someE hF
    subst hy
    refine And.intro rfl (Exists.intro [] (Exists.intro [] (Exists.intro [] (Exists.intro [] (Exists.intro [] (And.intro rfl (And.intro rfl (And.intro trivial trivial))))))))
  · refine Or.inl ?_
    obtain ⟨r3, hr3, hF⟩ := bindE hF
    refine Or.inl (And.intro f130_in (callV0 (callI C130 (a.1, a.2) r3 [] false C130_holds hr3 rfl rfl ?_)))
    refine (And.intro rfl (And.intro rfl (And.intro (fun h => nomatch h) (And.intro rfl (And.intro rfl (And.intro trivial (And.intro trivial ?_)))))))
    refine Or.inl ?_
    obtain ⟨r4, hr4, hF⟩ := bindE hF
    refine Or.inl (And.intro f131_in (callV0 (callI C131 n r4 [] false C131_holds hr4 rfl rfl ?_)))
    refine (And.intro rfl (And.intro (fun h => nomatch h) (And.intro rfl (And.intro rfl (And.intro trivial (And.intro trivial ?_))))))
    refine Or.inl ?_
    refine Or.inl ?_
    refine Exists.intro (.take 0 (.take 1 (.take 2 (.take 3 (.take 4 (.take 5 (.take 6 (.take 7 .done)))))))) (Exists.intro [] (Exists.intro [] (And.intro rfl ?_)))
    refine guardI hF (fun hF => ?_)
    refine guardI hF (fun hF => ?_)
    refine Or.inl ?_
    obtain ⟨q6_7, hq6_7, hF⟩ := bindE hF
    refine Or.inl (And.intro f132_in (callV0 (callI C132 ((Int.tmod r3.1 r4), r3.2.1, r4) q6_7 [] false C132_holds hq6_7 rfl rfl ?_)))
    refine (And.intro rfl (And.intro rfl (And.intro rfl (And.intro (fun h => nomatch h) (And.intro rfl (And.intro rfl (And.intro trivial (And.intro trivial ?_))))))))
    obtain ⟨z7, hz7, hF⟩ := bindE hF
    refine Or.inr ⟨[(0, ⟨[(7, .dat .bool (!(r3.2.2 == (decide (n < (0 : Int)))))), (9, .dat (.int .u64) z7.1), (11, .dat (.int .u64) z7.2)], [], 0⟩)], ?_, ?_⟩
    · have hF := hz7
      clear hz7
      unfold f98_j2 at hF
      obtain ⟨z8, hz8, hF⟩ := bindE hF
      refine Or.inr ⟨[(0, ⟨[(7, .dat .bool (!(r3.2.2 == (decide (n < (0 : Int)))))), (9, .dat (.int .u64) (IntKind.u64.wrap (Int.tdiv r3.1 r4))), (11, .dat (.int .u64) q6_7.1), (61, .dat .bool z8)], [], 0⟩)], ?_, ?_⟩
      · have hF := hz8
        clear hz8
        unfold f98_j3 at hF
        refine condN hF (fun hF => ?_) (fun hF => ?_)
        · refine gdYF ?_
          refine gdYF ?_
          refine gdYF ?_
          refine gdYF ?_
          refine gdYF ?_
          refine condI hF (fun hF => ?_) (fun hF => ?_)
          · refine gdYT ?_
            refine gdYT ?_
            refine gdYF ?_
            refine condT ?_
            refine condF ?_
            have hz := someE hF
            subst hz
            refine Exists.intro [] (Exists.intro [] (Exists.intro [] (Exists.intro [] (Exists.intro [] (And.intro rfl (And.intro rfl (And.intro rfl (And.intro rfl (And.intro rfl (And.intro trivial trivial))))))))))
          · refine gdNT ?_
            refine gdNT ?_
            refine gdYF ?_
            refine condF ?_
            refine condF ?_
            have hz := someE hF
            subst hz
            refine Exists.intro [] (Exists.intro [] (Exists.intro [] (Exists.intro [] (Exists.intro [] (And.intro rfl (And.intro rfl (And.intro rfl (And.intro rfl (And.intro rfl (And.intro trivial trivial))))))))))
        · refine gdNF ?_
          refine gdNF ?_
          refine gdNF ?_
          refine gdNF ?_
          refine gdNF ?_
          refine gdNF ?_
          refine condT ?_
          have hz := someE hF
          subst hz
          refine Exists.intro [] (Exists.intro [] (Exists.intro [] (Exists.intro [] (Exists.intro [] (And.intro rfl (And.intro rfl (And.intro rfl (And.intro rfl (And.intro rfl (And.intro trivial trivial))))))))))
      · refine And.intro ?_ trivial
        refine condI hF (fun hF => ?_) (fun hF => ?_)
        · refine Or.inl ?_
          refine Or.inl ?_
          obtain ⟨r9, hr9, hF⟩ := bindE hF
          refine Or.inr ⟨ext3 add64, [r9.1, r9.2], add64_ok, And.intro (ext3I hr9) ?_⟩
          have hz := someE hF
          subst hz
          refine Exists.intro [] (Exists.intro [] (Exists.intro [] (Exists.intro [] (Exists.intro [] (And.intro rfl (And.intro rfl (And.intro rfl (And.intro rfl (And.intro trivial trivial)))))))))
        · have hz := someE hF
          subst hz
          refine Exists.intro [] (Exists.intro [] (Exists.intro [] (Exists.intro [] (Exists.intro [] (And.intro rfl (And.intro rfl (And.intro rfl (And.intro rfl (And.intro trivial trivial)))))))))
    · refine And.intro ?_ trivial
      refine Or.inl ?_
      refine Or.inl ?_
      refine Or.inl ?_
      refine Or.inl ?_
      refine condI hF (fun hF => ?_) (fun hF => ?_)
      · refine Or.inl ?_
        obtain ⟨r10, hr10, hF⟩ := bindE hF
        refine Or.inl (And.intro f134_in (callV0 (callI C134 ((IntKind.i64.wrap (if (9223372036854775807 : Int) < z7.1 then (9223372036854775807 : Int) else z7.1)), z7.2) r10 [] false C134_holds hr10 rfl rfl ?_)))
        refine (And.intro rfl (And.intro rfl (And.intro (fun h => nomatch h) (And.intro rfl (And.intro rfl (And.intro trivial (And.intro trivial ?_)))))))
        obtain ⟨r11, hr11, hF⟩ := bindE hF
        refine Or.inl (And.intro f133_in (callV0 (callI C133 (r10.1, r10.2) r11 [] false C133_holds hr11 rfl rfl ?_)))
        refine (And.intro rfl (And.intro rfl (And.intro (fun h => nomatch h) (And.intro rfl (And.intro rfl (And.intro trivial (And.intro trivial ?_)))))))
        have hy := someE hF
        subst hy
        refine And.intro rfl (Exists.intro [] (Exists.intro [] (Exists.intro [] (Exists.intro [] (Exists.intro [] (And.intro rfl (And.intro rfl (And.intro trivial trivial))))))))
      · refine Or.inl ?_
        obtain ⟨r12, hr12, hF⟩ := bindE hF
        refine Or.inl (And.intro f133_in (callV0 (callI C133 ((IntKind.i64.wrap (if (9223372036854775807 : Int) < z7.1 then (9223372036854775807 : Int) else z7.1)), z7.2) r12 [] false C133_holds hr12 rfl rfl ?_)))
        refine (And.intro rfl (And.intro rfl (And.intro (fun h => nomatch h) (And.intro rfl (And.intro rfl (And.intro trivial (And.intro trivial ?_)))))))
        have hy := someE hF
        subst hy
        refine And.intro rfl (Exists.intro [] (Exists.intro [] (Exists.intro [] (Exists.intro [] (Exists.intro [] (And.intro rfl (And.intro rfl (And.intro trivial trivial))))))))
theorem C98_holds : C98.Holds Tryz.prog 98 := holds_of_vc tab_ok mixed (fn := Tryz.f98) (by kernel_rfl) rfl C98 (fun x y hF => C98_vc x.1 x.2 y hF)
theorem f98_in : ∃ fn, Tryz.prog.funcs[98]? = some fn ∧ fn.body.isSome = true ∧ (fn.name == "runtime.NumGoroutine") = false := ⟨Tryz.f98, by kernel_rfl, by kernel_rfl, by kernel_rfl⟩
end Go.Proofs
namespace Go.Proofs
open Go.AM
-- carousel/matm.Mean
def f178 (a : (List Int) × (List Int)) : Option (Int × Int) :=
  bindF (f86 (a.1, a.2)) fun q3_8 =>
  bif (!q3_8) then
    some ((0 : Int), (1 : Int))
  else
    bindF (f197 a.2) fun q3_2 =>
    bindF (f98 (q3_2.1, q3_2.2) (List.length a.2 : Int)) fun q3_6 =>
    some (q3_6, (0 : Int))
def C178 : Con where
  X := (List Int) × (List Int)
  Y := Int × Int
  e := 0
  args x := [.dat (.p (.sl (.int .i64)) (.sl (.int .i64))) x]
  hin x := []
  F x := f178 x
  ret y := [.dat (.int .i64) y.1, .dat (.int .i64) y.2]
  hout y := []
  nout := 0
theorem C178_vc (a : (List Int) × (List Int)) (y : Int × Int) (hF : f178 a = some y) : vc Tryz.prog tab Tryz.f178.ntmps 0 (match Tryz.f178.body with | some c => c | none => .skip) (retK tab C178 Tryz.f178.results.toList y) (C178.shIn a).st := by
  unfold f178 at hF
  refine Or.inl ?_
  refine Or.inl ?_
  refine Or.inl ?_
  obtain ⟨q3_8, hq3_8, hF⟩ := bindE hF
  refine Or.inl (And.intro f86_in (callV0 (callI C86 (a.1, a.2) q3_8 [] false C86_holds hq3_8 rfl rfl ?_)))
  refine (And.intro rfl (And.intro rfl (And.intro (fun h => nomatch h) (And.intro rfl (And.intro rfl (And.intro trivial (And.intro trivial ?_)))))))
  refine condI hF (fun hF => ?_) (fun hF => ?_)
  · refine Or.inl ?_
    have hy := someE hF
    subst hy
    refine And.intro rfl (Exists.intro [] (Exists.intro [] (Exists.intro [] (Exists.intro [] (Exists.intro [] (And.intro rfl (And.intro rfl (And.intro rfl (And.intro trivial trivial)))))))))
  · refine Or.inl ?_
    refine Exists.intro (.take 0 (.take 1 (.take 3 (.take 4 (.take 5 (.alt 2 (.alt 6 (.take 7 (.take 8 .done)) .done) .done)))))) (Exists.intro [] (Exists.intro [] (And.intro rfl ?_)))
    refine And.intro trivial ?_
    obtain ⟨q3_2, hq3_2, hF⟩ := bindE hF
    refine Or.inl (And.intro f197_in (callV0 (callI C197 a.2 q3_2 [] false C197_holds hq3_2 rfl rfl ?_)))
    refine (And.intro rfl (And.intro (fun h => nomatch h) (And.intro rfl (And.intro rfl (And.intro trivial (And.intro trivial ?_))))))
    refine And.intro trivial ?_
    obtain ⟨q3_6, hq3_6, hF⟩ := bindE hF
    refine Or.inl (And.intro f98_in (callV0 (callI C98 ((q3_2.1, q3_2.2), (List.length a.2 : Int)) q3_6 [] false C98_holds hq3_6 rfl rfl ?_)))
    refine (And.intro rfl (And.intro rfl (And.intro rfl (And.intro (fun h => nomatch h) (And.intro rfl (And.intro rfl (And.intro trivial (And.intro trivial ?_))))))))
    have hy := someE hF
    subst hy
    refine And.intro rfl (Exists.intro [] (Exists.intro [] (Exists.intro [] (Exists.intro [] (Exists.intro [] (And.intro rfl (And.intro rfl (And.intro rfl (And.intro trivial trivial)))))))))
theorem C178_holds : C178.Holds Tryz.prog 178 := holds_of_vc tab_ok mixed (fn := Tryz.f178) (by kernel_rfl) rfl C178 (fun x y hF => C178_vc x y hF)
theorem f178_in : ∃ fn, Tryz.prog.funcs[178]? = some fn ∧ fn.body.isSome = true ∧ (fn.name == "runtime.NumGoroutine") = false := ⟨Tryz.f178, by kernel_rfl, by kernel_rfl, by kernel_rfl⟩
end Go.Proofs
namespace Go.Proofs
open Go.AM
-- carousel/act.good
def f148 (kind : Int) : Option Bool :=
  bif (decide (kind ≥ (1 : Int))) then
    some (decide (kind ≤ (5 : Int)))
  else
    some false
def C148 : Con where
  X := Int
  Y := Bool
  e := 0
  args x := [.dat (.int .i64) x]
  hin x := []
  F x := f148 x
  ret y := [.dat .bool y]
  hout y := []
  nout := 0
theorem C148_vc (kind : Int) (y : Bool) (hF : f148 kind = some y) : vc Tryz.prog tab Tryz.f148.ntmps 0 (match Tryz.f148.body with | some c => c | none => .skip) (retK tab C148 Tryz.f148.results.toList y) (C148.shIn kind).st := by
  unfold f148 at hF
  refine Or.inl ?_
  refine Or.inl ?_
  refine condI hF (fun hF => ?_) (fun hF => ?_)
  · refine gdYT ?_
    refine condT ?_
    have hy := someE hF
    subst hy
    refine And.intro rfl (Exists.intro [] (Exists.intro [] (Exists.intro [] (Exists.intro [] (Exists.intro [] (And.intro rfl (And.intro rfl (And.intro trivial trivial))))))))
  · refine gdNT ?_
    refine condF ?_
    have hy := someE hF
    subst hy
    refine And.intro rfl (Exists.intro [] (Exists.intro [] (Exists.intro [] (Exists.intro [] (Exists.intro [] (And.intro rfl (And.intro rfl (And.intro trivial trivial))))))))
theorem C148_holds : C148.Holds Tryz.prog 148 := holds_of_vc tab_ok mixed (fn := Tryz.f148) (by kernel_rfl) rfl C148 (fun x y hF => C148_vc x y hF)
theorem f148_in : ∃ fn, Tryz.prog.funcs[148]? = some fn ∧ fn.body.isSome = true ∧ (fn.name == "runtime.NumGoroutine") = false := ⟨Tryz.f148, by kernel_rfl, by kernel_rfl, by kernel_rfl⟩
end Go.Proofs
namespace Go.Proofs
open Go.AM
-- carousel/fix.Of
def f219 (n : Int) : Option Int :=
  bif (decide (n ≥ (2147483648 : Int))) then
    some (9223372036854775807 : Int)
  else
    bif (decide (n < (-2147483648 : Int))) then
      some (-9223372036854775808 : Int)
    else
      some (IntKind.i64.wrap (n * 2 ^ min (Int.toNat (32 : Int)) (IntKind.bits IntKind.i64)))
def C219 : Con where
  X := Int
  Y := Int
  e := 0
  args x := [.dat (.int .i64) x]
  hin x := []
  F x := f219 x
  ret y := [.dat (.int .i64) y]
  hout y := []
  nout := 0
theorem C219_vc (n : Int) (y : Int) (hF : f219 n = some y) : vc Tryz.prog tab Tryz.f219.ntmps 0 (match Tryz.f219.body with | some c => c | none => .skip) (retK tab C219 Tryz.f219.results.toList y) (C219.shIn n).st := by
  unfold f219 at hF
  refine Or.inl ?_
  refine Or.inl ?_
  refine Or.inl ?_
  refine condI hF (fun hF => ?_) (fun hF => ?_)
  · refine Or.inl ?_
    have hy := someE hF
    subst hy
    refine And.intro rfl (Exists.intro [] (Exists.intro [] (Exists.intro [] (Exists.intro [] (Exists.intro [] (And.intro rfl (And.intro rfl (And.intro trivial trivial))))))))
  · refine Or.inl ?_
    refine condI hF (fun hF => ?_) (fun hF => ?_)
    · refine Or.inl ?_
      have hy := someE hF
      subst hy
      refine And.intro rfl (Exists.intro [] (Exists.intro [] (Exists.intro [] (Exists.intro [] (Exists.intro [] (And.intro rfl (And.intro rfl (And.intro trivial trivial))))))))
    · refine Or.inl ?_
      refine And.intro (by decide) ?_
      have hy := someE hF
      subst hy
      refine And.intro rfl (Exists.intro [] (Exists.intro [] (Exists.intro [] (Exists.intro [] (Exists.intro [] (And.intro rfl (And.intro rfl (And.intro trivial trivial))))))))
theorem C219_holds : C219.Holds Tryz.prog 219 := holds_of_vc tab_ok mixed (fn := Tryz.f219) (by kernel_rfl) rfl C219 (fun x y hF => C219_vc x y hF)
theorem f219_in : ∃ fn, Tryz.prog.funcs[219]? = some fn ∧ fn.body.isSome = true ∧ (fn.name == "runtime.NumGoroutine") = false := ⟨Tryz.f219, by kernel_rfl, by kernel_rfl, by kernel_rfl⟩
end Go.Proofs
namespace Go.Proofs
open Go.AM
-- carousel/act.within
def f220 (x_ : Int) (lo : Int) (hi : Int) : Option Int :=
  some (if hi < (if lo > x_ then lo else x_) then hi else (if lo > x_ then lo else x_))
def C220 : Con where
  X := Int × Int × Int
  Y := Int
  e := 0
  args x := [.dat (.int .i64) x.1, .dat (.int .i64) x.2.1, .dat (.int .i64) x.2.2]
  hin x := []
  F x := f220 x.1 x.2.1 x.2.2
  ret y := [.dat (.int .i64) y]
  hout y := []
  nout := 0
theorem C220_vc (x_ : Int) (lo : Int) (hi : Int) (y : Int) (hF : f220 x_ lo hi = some y) : vc Tryz.prog tab Tryz.f220.ntmps 0 (match Tryz.f220.body with | some c => c | none => .skip) (retK tab C220 Tryz.f220.results.toList y) (C220.shIn (x_, lo, hi)).st := by
  unfold f220 at hF
  refine Or.inl ?_
  refine Or.inl ?_
  have hy := someE hF
  subst hy
  refine And.intro rfl (Exists.intro [] (Exists.intro [] (Exists.intro [] (Exists.intro [] (Exists.intro [] (And.intro rfl (And.intro rfl (And.intro trivial trivial))))))))
theorem C220_holds : C220.Holds Tryz.prog 220 := holds_of_vc tab_ok mixed (fn := Tryz.f220) (by kernel_rfl) rfl C220 (fun x y hF => C220_vc x.1 x.2.1 x.2.2 y hF)
theorem f220_in : ∃ fn, Tryz.prog.funcs[220]? = some fn ∧ fn.body.isSome = true ∧ (fn.name == "runtime.NumGoroutine") = false := ⟨Tryz.f220, by kernel_rfl, by kernel_rfl, by kernel_rfl⟩
end Go.Proofs
namespace Go.Proofs
open Go.AM
-- carousel/fix.Neg
def f221 (a : Int) : Option Int :=
  bif (a == (-9223372036854775808 : Int)) then
    some (9223372036854775807 : Int)
  else
    some (IntKind.i64.wrap (0 - a))
def C221 : Con where
  X := Int
  Y := Int
  e := 0
  args x := [.dat (.int .i64) x]
  hin x := []
  F x := f221 x
  ret y := [.dat (.int .i64) y]
  hout y := []
  nout := 0
theorem C221_vc (a : Int) (y : Int) (hF : f221 a = some y) : vc Tryz.prog tab Tryz.f221.ntmps 0 (match Tryz.f221.body with | some c => c | none => .skip) (retK tab C221 Tryz.f221.results.toList y) (C221.shIn a).st := by
  unfold f221 at hF
  refine Or.inl ?_
  refine Or.inl ?_
  refine Or.inl ?_
  refine condI hF (fun hF => ?_) (fun hF => ?_)
  · refine Or.inl ?_
    have hy := someE hF
    subst hy
    refine And.intro rfl (Exists.intro [] (Exists.intro [] (Exists.intro [] (Exists.intro [] (Exists.intro [] (And.intro rfl (And.intro rfl (And.intro trivial trivial))))))))
  · refine Or.inl ?_
    have hy := someE hF
    subst hy
    refine And.intro rfl (Exists.intro [] (Exists.intro [] (Exists.intro [] (Exists.intro [] (Exists.intro [] (And.intro rfl (And.intro rfl (And.intro trivial trivial))))))))
theorem C221_holds : C221.Holds Tryz.prog 221 := holds_of_vc tab_ok mixed (fn := Tryz.f221) (by kernel_rfl) rfl C221 (fun x y hF => C221_vc x y hF)
theorem f221_in : ∃ fn, Tryz.prog.funcs[221]? = some fn ∧ fn.body.isSome = true ∧ (fn.name == "runtime.NumGoroutine") = false := ⟨Tryz.f221, by kernel_rfl, by kernel_rfl, by kernel_rfl⟩
end Go.Proofs
