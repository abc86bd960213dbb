import Derived.Test.YtlgiakkejlbbfaaGreatBackKnownF3
set_option linter.unusedVariables false
set_option maxRecDepth 100000
set_option maxHeartbeats 8000000
namespace Go.Proofs
open Go.AM
-- carousel/act.Of
def f141 (kind : Int) (x_ : Int) : Option (Int × Int) :=
  bif (kind == (1 : Int)) then
    some ((if (0 : Int) > x_ then (0 : Int) else x_), (0 : Int))
  else
    bif (kind == (2 : Int)) then
      bif (decide (x_ > (0 : Int))) then
        some (x_, (0 : Int))
      else
        bindF (f170 (8 : Int)) fun r1 =>
        bindF (f146 x_ r1) fun r2 =>
        some (r2, (0 : Int))
    else
      bif (kind == (3 : Int)) then
        bindF (f171 x_ (-4294967296 : Int) (4294967296 : Int)) fun r3 =>
        some (r3, (0 : Int))
      else
        bif (kind == (4 : Int)) then
          bif (decide (x_ < (0 : Int))) then
            bindF (f172 x_) fun r4 =>
            some (r4, (0 : Int))
          else
            some (x_, (0 : Int))
        else
          bif (kind == (5 : Int)) then
            bindF (f170 (2 : Int)) fun r5 =>
            bindF (f146 x_ r5) fun r6 =>
            bindF (f125 r6 (2147483648 : Int)) fun r7 =>
            bindF (f171 r7 (0 : Int) (4294967296 : Int)) fun r8 =>
            some (r8, (0 : Int))
          else
            some ((0 : Int), (1 : Int))
def C141 : Con where
  X := Int × Int
  Y := Int × Int
  e := 0
  args x := [.dat (.int .i64) x.1, .dat (.int .i64) x.2]
  hin x := []
  F x := f141 x.1 x.2
  ret y := [.dat (.int .i64) y.1, .dat (.int .i64) y.2]
  hout y := []
  nout := 0
theorem C141_vc (kind : Int) (x_ : Int) (y : Int × Int) (hF : f141 kind x_ = some y) : vc Tryz.prog tab Tryz.f141.ntmps 0 (match Tryz.f141.body with | some c => c | none => .skip) (retK tab C141 Tryz.f141.results.toList y) (C141.shIn (kind, x_)).st := by
  unfold f141 at hF
  refine Or.inl ?_
  refine Or.inl ?_
  refine Or.inl ?_
  refine Or.inl ?_
  refine condI hF (fun hF => ?_) (fun hF => ?_)
  · refine Or.inl ?_
    have hy := someE hF
    subst hy
    refine And.intro rfl (Exists.intro [] (Exists.intro [] (Exists.intro [] (Exists.intro [] (Exists.intro [] (And.intro rfl (And.intro rfl (And.intro rfl (And.intro trivial trivial)))))))))
  · refine Or.inl ?_
    refine condI hF (fun hF => ?_) (fun hF => ?_)
    · refine Or.inl ?_
      refine Or.inl ?_
      refine condI hF (fun hF => ?_) (fun hF => ?_)
      · refine Or.inl ?_
        have hy := someE hF
        subst hy
        refine And.intro rfl (Exists.intro [] (Exists.intro [] (Exists.intro [] (Exists.intro [] (Exists.intro [] (And.intro rfl (And.intro rfl (And.intro rfl (And.intro trivial trivial)))))))))
      · refine Or.inl ?_
        obtain ⟨r1, hr1, hF⟩ := bindE hF
        refine Or.inl (And.intro f170_in (callV0 (callI C170 (8 : Int) r1 [] false C170_holds hr1 rfl rfl ?_)))
        refine (And.intro rfl (And.intro (fun h => nomatch h) (And.intro rfl (And.intro rfl (And.intro trivial (And.intro trivial ?_))))))
        obtain ⟨r2, hr2, hF⟩ := bindE hF
        refine Or.inl (And.intro f146_in (callV0 (callI C146 (x_, r1) r2 [] false C146_holds hr2 rfl rfl ?_)))
        refine (And.intro rfl (And.intro rfl (And.intro (fun h => nomatch h) (And.intro rfl (And.intro rfl (And.intro trivial (And.intro trivial ?_)))))))
        have hy := someE hF
        subst hy
        refine And.intro rfl (Exists.intro [] (Exists.intro [] (Exists.intro [] (Exists.intro [] (Exists.intro [] (And.intro rfl (And.intro rfl (And.intro rfl (And.intro trivial trivial)))))))))
    · refine Or.inl ?_
      refine condI hF (fun hF => ?_) (fun hF => ?_)
      · refine Or.inl ?_
        obtain ⟨r3, hr3, hF⟩ := bindE hF
        have hr3 : C171.F (x_, (-4294967296 : Int), (4294967296 : Int)) = some r3 := hr3
        refine Or.inl (And.intro f171_in (callV0 (callI C171 _ r3 [] false C171_holds hr3 rfl rfl ?_)))
        refine (And.intro rfl (And.intro rfl (And.intro rfl (And.intro (fun h => nomatch h) (And.intro rfl (And.intro rfl (And.intro trivial (And.intro trivial ?_))))))))
        have hy := someE hF
        subst hy
        refine And.intro rfl (Exists.intro [] (Exists.intro [] (Exists.intro [] (Exists.intro [] (Exists.intro [] (And.intro rfl (And.intro rfl (And.intro rfl (And.intro trivial trivial)))))))))
      · refine Or.inl ?_
        refine condI hF (fun hF => ?_) (fun hF => ?_)
        · refine Or.inl ?_
          refine Or.inl ?_
          refine condI hF (fun hF => ?_) (fun hF => ?_)
          · refine Or.inl ?_
            obtain ⟨r4, hr4, hF⟩ := bindE hF
            refine Or.inl (And.intro f172_in (callV0 (callI C172 x_ r4 [] false C172_holds hr4 rfl rfl ?_)))
            refine (And.intro rfl (And.intro (fun h => nomatch h) (And.intro rfl (And.intro rfl (And.intro trivial (And.intro trivial ?_))))))
            have hy := someE hF
            subst hy
            refine And.intro rfl (Exists.intro [] (Exists.intro [] (Exists.intro [] (Exists.intro [] (Exists.intro [] (And.intro rfl (And.intro rfl (And.intro rfl (And.intro trivial trivial)))))))))
          · refine Or.inl ?_
            have hy := someE hF
            subst hy
            refine And.intro rfl (Exists.intro [] (Exists.intro [] (Exists.intro [] (Exists.intro [] (Exists.intro [] (And.intro rfl (And.intro rfl (And.intro rfl (And.intro trivial trivial)))))))))
        · refine Or.inl ?_
          refine condI hF (fun hF => ?_) (fun hF => ?_)
          · refine Or.inl ?_
            obtain ⟨r5, hr5, hF⟩ := bindE hF
            refine Or.inl (And.intro f170_in (callV0 (callI C170 (2 : Int) r5 [] false C170_holds hr5 rfl rfl ?_)))
            refine (And.intro rfl (And.intro (fun h => nomatch h) (And.intro rfl (And.intro rfl (And.intro trivial (And.intro trivial ?_))))))
            obtain ⟨r6, hr6, hF⟩ := bindE hF
            refine Or.inl (And.intro f146_in (callV0 (callI C146 (x_, r5) r6 [] false C146_holds hr6 rfl rfl ?_)))
            refine (And.intro rfl (And.intro rfl (And.intro (fun h => nomatch h) (And.intro rfl (And.intro rfl (And.intro trivial (And.intro trivial ?_)))))))
            obtain ⟨r7, hr7, hF⟩ := bindE hF
            refine Or.inl (And.intro f125_in (callV0 (callI C125 (r6, (2147483648 : Int)) r7 [] false C125_holds hr7 rfl rfl ?_)))
            refine (And.intro rfl (And.intro rfl (And.intro (fun h => nomatch h) (And.intro rfl (And.intro rfl (And.intro trivial (And.intro trivial ?_)))))))
            obtain ⟨r8, hr8, hF⟩ := bindE hF
            refine Or.inl (And.intro f171_in (callV0 (callI C171 (r7, (0 : Int), (4294967296 : Int)) r8 [] false C171_holds hr8 rfl rfl ?_)))
            refine (And.intro rfl (And.intro rfl (And.intro rfl (And.intro (fun h => nomatch h) (And.intro rfl (And.intro rfl (And.intro trivial (And.intro trivial ?_))))))))
            have hy := someE hF
            subst hy
            refine And.intro rfl (Exists.intro [] (Exists.intro [] (Exists.intro [] (Exists.intro [] (Exists.intro [] (And.intro rfl (And.intro rfl (And.intro rfl (And.intro trivial trivial)))))))))
          · refine Or.inl ?_
            have hy := someE hF
            subst hy
            refine And.intro rfl (Exists.intro [] (Exists.intro [] (Exists.intro [] (Exists.intro [] (Exists.intro [] (And.intro rfl (And.intro rfl (And.intro rfl (And.intro trivial trivial)))))))))
theorem C141_holds : C141.Holds Tryz.prog 141 := holds_of_vc tab_ok mixed (fn := Tryz.f141) (by kernel_rfl) rfl C141 (fun x y hF => C141_vc x.1 x.2 y hF)
theorem f141_in : ∃ fn, Tryz.prog.funcs[141]? = some fn ∧ fn.body.isSome = true ∧ (fn.name == "runtime.NumGoroutine") = false := ⟨Tryz.f141, by kernel_rfl, by kernel_rfl, by kernel_rfl⟩
end Go.Proofs
namespace Go.Proofs
open Go.AM
-- carousel/act.All
def f92_j3 (kind : Int) (t : (List Int) × (List Int)) : Option Bool :=
  bindF (f140 kind) fun r9 =>
  bif (!r9) then
    some true
  else
    bindF (f33 (t.1, t.2)) fun r10 =>
    some (!r10)
def f92_j2 (kind : Int) (t : (List Int) × (List Int)) : Option (Sum Unit Unit) :=
  bindF (f92_j3 kind t) fun z8 =>
  bif z8 then
    some (Sum.inr ())
  else
    some (Sum.inl ())
def f92_l4 (kind : Int) (t : (List Int) × (List Int)) (go : (Int × (List Int)) → Option (List Int)) (v23 : Int) (l3 : List Int) : Option (List Int) :=
  bif (decide (v23 < (List.length t.2 : Int))) then
    guardF (0 ≤ v23 ∧ v23 < (List.length t.2 : Int)) <|
    bindF (f141 kind (rd (0 : Int) t.2 v23)) fun q7_5 =>
    guardF (0 ≤ v23 ∧ v23 < (List.length l3 : Int)) <|
    go ((IntKind.i64.wrap (v23 + (1 : Int))), (List.set l3 (Int.toNat v23) q7_5.1))
  else
    some l3
def f92 (kind : Int) (t : (List Int) × (List Int)) : Option (Int × (List Int) × (List Int)) :=
  bindF (f92_j2 kind t) fun z5 =>
  sumF z5 (fun z5a =>
    bindF (f35 (t.1, t.2)) fun r11 =>
    bindF (loopF (fun go x => f92_l4 kind t go x.1 x.2) fuelN ((0 : Int), r11.2)) fun z12 =>
    some ((0 : Int), r11.1, z12)) (fun z5b =>
    some ((1 : Int), [], []))
def C92 : Con where
  X := Int × ((List Int) × (List Int))
  Y := Int × (List Int) × (List Int)
  e := 0
  args x := [.dat (.int .i64) x.1, .dat (.p (.sl (.int .i64)) (.sl (.int .i64))) x.2]
  hin x := []
  F x := f92 x.1 x.2
  ret y := [.raw true [(.osl 0), (.osl 1)], .dat (.int .i64) y.1]
  hout y := [(0, .arr 3 (.int .i64) y.2.1), (1, .arr 33 (.int .i64) y.2.2)]
  nout := 2
theorem C92_vc (kind : Int) (t : (List Int) × (List Int)) (y : Int × (List Int) × (List Int)) (hF : f92 kind t = some y) : vc Tryz.prog tab Tryz.f92.ntmps 0 (match Tryz.f92.body with | some c => c | none => .skip) (retK tab C92 Tryz.f92.results.toList y) (C92.shIn (kind, t)).st := by
  unfold f92 at hF
  refine Or.inl ?_
  obtain ⟨z5, hz5, hF⟩ := bindE hF
  refine Or.inr ⟨Sum.elim (fun z5a => [(0, ⟨[(0, .dat (.int .i64) kind), (3, .raw false [(.ptr 0 0)]), (4, .raw false [(.ptr 1 0)])], [(0, .cells [(.d (.sl (.int .i64)) t.1), (.d (.sl (.int .i64)) t.2)]), (1, .cells [(.c (.slice none 0 0)), (.c (.slice none 0 0))])], 2⟩)]) (fun z5b => [(1, ⟨[(4, .raw false [(.ptr 0 0)]), (5, .dat (.int .i64) (1 : Int))], [(0, .cells [(.c (.slice none 0 0)), (.c (.slice none 0 0))])], 1⟩)]) z5, ?_, ?_⟩
  · have hF := hz5
    clear hz5
    unfold f92_j2 at hF
    obtain ⟨z8, hz8, hF⟩ := bindE hF
    refine Or.inr ⟨[(0, ⟨[(0, .dat (.int .i64) kind), (3, .raw false [(.ptr 0 0)]), (4, .raw false [(.ptr 1 0)]), (16, .dat .bool z8)], [(0, .cells [(.d (.sl (.int .i64)) t.1), (.d (.sl (.int .i64)) t.2)]), (1, .cells [(.c (.slice none 0 0)), (.c (.slice none 0 0))])], 2⟩)], ?_, ?_⟩
    · have hF := hz8
      clear hz8
      unfold f92_j3 at hF
      obtain ⟨r9, hr9, hF⟩ := bindE hF
      refine Or.inl (And.intro f140_in (callV0 (callI C140 kind r9 [] false C140_holds hr9 rfl rfl ?_)))
      refine (And.intro rfl (And.intro (fun h => nomatch h) (And.intro rfl (And.intro rfl (And.intro trivial (And.intro trivial ?_))))))
      refine condN hF (fun hF => ?_) (fun hF => ?_)
      · refine gdYF ?_
        obtain ⟨r10, hr10, hF⟩ := bindE hF
        refine Or.inl (And.intro f33_in (callV0 (callI C33 (t.1, t.2) r10 [] false C33_holds hr10 rfl rfl ?_)))
        refine (And.intro rfl (And.intro rfl (And.intro (fun h => nomatch h) (And.intro rfl (And.intro rfl (And.intro trivial (And.intro trivial ?_)))))))
        refine gdYF ?_
        refine condF ?_
        have hz := someE hF
        subst hz
        refine Exists.intro [] (Exists.intro [] (Exists.intro [] (Exists.intro [] (Exists.intro [(0, some 0), (1, some 1)] (And.intro rfl (And.intro rfl (And.intro rfl (And.intro (And.intro rfl (And.intro rfl trivial)) (And.intro rfl (And.intro rfl trivial))))))))))
      · refine gdNF ?_
        refine gdNF ?_
        refine condT ?_
        have hz := someE hF
        subst hz
        refine Exists.intro [] (Exists.intro [] (Exists.intro [] (Exists.intro [] (Exists.intro [(0, some 0), (1, some 1)] (And.intro rfl (And.intro rfl (And.intro rfl (And.intro (And.intro rfl (And.intro rfl trivial)) (And.intro rfl (And.intro rfl trivial))))))))))
    · refine And.intro ?_ trivial
      refine condI hF (fun hF => ?_) (fun hF => ?_)
      · refine Or.inl ?_
        refine Or.inl ?_
        have hz := someE hF
        subst hz
        refine Exists.intro [] (Exists.intro [] (Exists.intro [] (Exists.intro [] (Exists.intro [(0, some 1)] (And.intro rfl (And.intro rfl (And.intro (And.intro rfl trivial) (And.intro rfl trivial))))))))
      · have hz := someE hF
        subst hz
        refine Exists.intro [] (Exists.intro [] (Exists.intro [] (Exists.intro [] (Exists.intro [(0, some 0), (1, some 1)] (And.intro rfl (And.intro rfl (And.intro (And.intro rfl (And.intro rfl trivial)) (And.intro rfl (And.intro rfl trivial)))))))))
  · rcases z5 with z5a | z5b
    · dsimp only [sumF] at hF
      refine And.intro ?_ trivial
      refine Or.inl ?_
      obtain ⟨r11, hr11, hF⟩ := bindE hF
      refine Or.inl (And.intro f35_in (callV0 (callI C35 (t.1, t.2) r11 [] false C35_holds hr11 rfl rfl ?_)))
      refine (And.intro rfl (And.intro rfl (And.intro (fun h => nomatch h) (And.intro rfl (And.intro rfl (And.intro trivial (And.intro trivial ?_)))))))
      refine Or.inl ?_
      refine Or.inl ?_
      refine Or.inl ?_
      obtain ⟨z12, hz12, hF⟩ := bindE hF
      refine loopI (Int × (List Int)) (List Int) (fun x => ⟨[(0, .dat (.int .i64) kind), (4, .raw false [(.ptr 0 0)]), (6, .raw false [(.ptr 1 0)]), (21, .dat (.sl (.int .i64)) t.2), (22, .dat (.int .i64) (List.length t.2 : Int)), (23, .dat (.int .i64) x.1)], [(0, .cells [(.c (.slice none 0 0)), (.c (.slice none 0 0))]), (1, .cells [(.osl 2), (.osl 3)]), (2, .arr 3 (.int .i64) r11.1), (3, .arr 33 (.int .i64) x.2)], 4⟩) (fun z => [(2, ⟨[(4, .raw false [(.ptr 0 0)]), (6, .raw false [(.ptr 1 0)])], [(0, .cells [(.c (.slice none 0 0)), (.c (.slice none 0 0))]), (1, .cells [(.osl 2), (.osl 3)]), (2, .arr 3 (.int .i64) r11.1), (3, .arr 33 (.int .i64) z)], 4⟩)]) (loopF (fun go x => f92_l4 kind t go x.1 x.2)) fuelN ((0 : Int), r11.2) z12 (And.intro hz12 (And.intro (Exists.intro [] (Exists.intro [] (Exists.intro [] (Exists.intro [] (Exists.intro [(0, some 1), (1, some 4), (2, some 2), (3, some 3)] (And.intro rfl (And.intro rfl (And.intro rfl (And.intro rfl (And.intro rfl (And.intro (And.intro rfl (And.intro rfl trivial)) (And.intro rfl (And.intro rfl (And.intro rfl (And.intro rfl trivial))))))))))))))) (And.intro (fun _ _ h => loopZ h) (And.intro (fun m => curI (fun v23 => fun l3 z hF => ?_)) ?_))))
      · have hF : f92_l4 kind t (loopF (fun go x => f92_l4 kind t go x.1 x.2) m) v23 l3 = some z := hF
        unfold f92_l4 at hF
        refine Or.inl ?_
        refine Or.inl ?_
        refine condI hF (fun hF => ?_) (fun hF => ?_)
        · refine Or.inl ?_
          refine Or.inl ?_
          refine guardI hF (fun hF => ?_)
          refine Exists.intro (.take 0 (.take 1 (.take 2 (.take 3 (.take 4 (.alt 5 (.take 6 (.take 7 (.take 8 (.take 9 (.alt 10 .done .done))))) .done)))))) (Exists.intro [] (Exists.intro [] (And.intro rfl ?_)))
          refine And.intro trivial ?_
          obtain ⟨q7_5, hq7_5, hF⟩ := bindE hF
          refine Or.inl (And.intro f141_in (callV0 (callI C141 (kind, (rd (0 : Int) t.2 v23)) q7_5 [] false C141_holds hq7_5 rfl rfl ?_)))
          refine (And.intro rfl (And.intro rfl (And.intro (fun h => nomatch h) (And.intro rfl (And.intro rfl (And.intro trivial (And.intro trivial ?_)))))))
          refine guardI hF (fun hF => ?_)
          refine And.intro trivial ?_
          refine Or.inl ?_
          refine Exists.intro ((IntKind.i64.wrap (v23 + (1 : Int))), (List.set l3 (Int.toNat v23) q7_5.1)) (And.intro hF (Exists.intro [] (Exists.intro [] (Exists.intro [] (Exists.intro [] (Exists.intro [(0, some 0), (1, some 1), (2, some 2), (3, some 3)] (And.intro rfl (And.intro rfl (And.intro rfl (And.intro rfl (And.intro rfl (And.intro (And.intro rfl (And.intro rfl trivial)) (And.intro rfl (And.intro rfl (And.intro rfl (And.intro rfl trivial))))))))))))))))
        · have hz := someE hF
          subst hz
          refine Exists.intro [] (Exists.intro [] (Exists.intro [] (Exists.intro [] (Exists.intro [(0, some 0), (1, some 1), (2, some 2), (3, some 3)] (And.intro rfl (And.intro (And.intro rfl (And.intro rfl trivial)) (And.intro rfl (And.intro rfl (And.intro rfl (And.intro rfl trivial))))))))))
      · refine And.intro ?_ trivial
        refine Or.inl ?_
        refine Or.inl ?_
        have hy := someE hF
        subst hy
        refine And.intro rfl (Exists.intro [] (Exists.intro [] (Exists.intro [] (Exists.intro [] (Exists.intro [(0, some 2), (1, some 3)] (And.intro rfl (And.intro rfl (And.intro (And.intro rfl trivial) (And.intro rfl (And.intro rfl trivial))))))))))
    · dsimp only [sumF] at hF
      refine And.intro ?_ trivial
      have hy := someE hF
      subst hy
      refine And.intro rfl (Exists.intro [] (Exists.intro [] (Exists.intro [] (Exists.intro [] (Exists.intro [(0, none), (1, none)] (And.intro rfl (And.intro rfl (And.intro (And.intro rfl trivial) (And.intro rfl (And.intro rfl trivial))))))))))
theorem C92_holds : C92.Holds Tryz.prog 92 := holds_of_vc tab_ok mixed (fn := Tryz.f92) (by kernel_rfl) rfl C92 (fun x y hF => C92_vc x.1 x.2 y hF)
theorem f92_in : ∃ fn, Tryz.prog.funcs[92]? = some fn ∧ fn.body.isSome = true ∧ (fn.name == "runtime.NumGoroutine") = false := ⟨Tryz.f92, by kernel_rfl, by kernel_rfl, by kernel_rfl⟩
end Go.Proofs
namespace Go.Proofs
open Go.AM
-- carousel/conv.Pool
def f93_j3 (a : (List Int) × (List Int)) (wid : Int) : Option Bool :=
  bif (decide (wid < (1 : Int))) then
    some true
  else
    guardF (0 ≤ (1 : Int) ∧ (1 : Int) < (List.length a.1 : Int)) <|
    some (decide (wid > (rd (0 : Int) a.1 (1 : Int))))
def f93_j2 (a : (List Int) × (List Int)) (wid : Int) : Option (Sum Unit Int) :=
  bindF (f33 (a.1, a.2)) fun r4 =>
  bif (!r4) then
    some (Sum.inr (1 : Int))
  else
    bif ((List.length a.1 : Int) != (2 : Int)) then
      some (Sum.inr (4 : Int))
    else
      bindF (f93_j3 a wid) fun z5 =>
      bif z5 then
        some (Sum.inr (1 : Int))
      else
        some (Sum.inl ())
def f93_l7 (a : (List Int) × (List Int)) (wid : Int) (v61 : Int) (go : (Int × Int) → Option Int) (best : Int) (at_ : Int) : Option Int :=
  guardF ((IntKind.i64.wrap (Int.tdiv (rd (0 : Int) a.1 (1 : Int)) wid)) ≠ 0) <|
  guardF ((IntKind.i64.wrap (Int.tdiv (rd (0 : Int) a.1 (1 : Int)) wid)) ≠ 0) <|
  bif (decide (at_ < (IntKind.i64.wrap ((IntKind.i64.wrap ((IntKind.i64.wrap ((IntKind.i64.wrap (Int.tdiv v61 (IntKind.i64.wrap (Int.tdiv (rd (0 : Int) a.1 (1 : Int)) wid)))) * (rd (0 : Int) a.1 (1 : Int)))) + (IntKind.i64.wrap ((Int.tmod v61 (IntKind.i64.wrap (Int.tdiv (rd (0 : Int) a.1 (1 : Int)) wid))) * wid)))) + wid)))) then
    guardF (0 ≤ at_ ∧ at_ < (List.length a.2 : Int)) <|
    guardF (0 ≤ best ∧ best < (List.length a.2 : Int)) <|
    bif (decide ((rd (0 : Int) a.2 at_) > (rd (0 : Int) a.2 best))) then
      go (at_, (IntKind.i64.wrap (at_ + (1 : Int))))
    else
      go (best, (IntKind.i64.wrap (at_ + (1 : Int))))
  else
    some best
def f93_l6 (a : (List Int) × (List Int)) (wid : Int) (q7_11 : Int × (List Int) × (List Int)) (go : (Int × (List Int) × (List Int)) → Option ((List Int) × (List Int))) (v61 : Int) (l3 : List Int) (l5 : List Int) : Option ((List Int) × (List Int)) :=
  bif (decide (v61 < (List.length q7_11.2.2 : Int))) then
    guardF ((IntKind.i64.wrap (Int.tdiv (rd (0 : Int) a.1 (1 : Int)) wid)) ≠ 0) <|
    guardF ((IntKind.i64.wrap (Int.tdiv (rd (0 : Int) a.1 (1 : Int)) wid)) ≠ 0) <|
    bindF (loopF (fun go x => f93_l7 a wid v61 go x.1 x.2) fuelN ((IntKind.i64.wrap ((IntKind.i64.wrap ((IntKind.i64.wrap (Int.tdiv v61 (IntKind.i64.wrap (Int.tdiv (rd (0 : Int) a.1 (1 : Int)) wid)))) * (rd (0 : Int) a.1 (1 : Int)))) + (IntKind.i64.wrap ((Int.tmod v61 (IntKind.i64.wrap (Int.tdiv (rd (0 : Int) a.1 (1 : Int)) wid))) * wid)))), (IntKind.i64.wrap ((IntKind.i64.wrap ((IntKind.i64.wrap ((IntKind.i64.wrap (Int.tdiv v61 (IntKind.i64.wrap (Int.tdiv (rd (0 : Int) a.1 (1 : Int)) wid)))) * (rd (0 : Int) a.1 (1 : Int)))) + (IntKind.i64.wrap ((Int.tmod v61 (IntKind.i64.wrap (Int.tdiv (rd (0 : Int) a.1 (1 : Int)) wid))) * wid)))) + (1 : Int))))) fun z9 =>
    guardF (0 ≤ z9 ∧ z9 < (List.length a.2 : Int)) <|
    guardF (0 ≤ v61 ∧ v61 < (List.length l5 : Int)) <|
    guardF ((List.length l3 + List.length ([z9])) * 8 ≤ 140737488355328) <|
    go ((IntKind.i64.wrap (v61 + (1 : Int))), (l3 ++ ([z9])), (List.set l5 (Int.toNat v61) (rd (0 : Int) a.2 z9)))
  else
    some (l3, l5)
def f93 (a : (List Int) × (List Int)) (wid : Int) : Option (Int × (List Int) × (List Int) × (List Int)) :=
  bindF (f93_j2 a wid) fun z3 =>
  sumF z3 (fun z3a =>
    guardF (0 ≤ (1 : Int) ∧ (1 : Int) < (List.length a.1 : Int)) <|
    guardF (0 ≤ (1 : Int) ∧ (1 : Int) < (List.length a.1 : Int)) <|
    guardF (wid ≠ 0) <|
    guardF (0 ≤ (0 : Int) ∧ (0 : Int) < (List.length a.1 : Int)) <|
    bindF (f132 ([(rd (0 : Int) a.1 (0 : Int)), (IntKind.i64.wrap (Int.tdiv (rd (0 : Int) a.1 (1 : Int)) wid))])) fun q7_11 =>
    bindF (loopF (fun go x => f93_l6 a wid q7_11 go x.1 x.2.1 x.2.2) fuelN ((0 : Int), [], q7_11.2.2)) fun z8 =>
    some ((0 : Int), q7_11.2.1, z8.2, z8.1)) (fun z3b =>
    some (z3b, [], [], []))
def C93 : Con where
  X := ((List Int) × (List Int)) × Int
  Y := Int × (List Int) × (List Int) × (List Int)
  e := 0
  args x := [.dat (.p (.sl (.int .i64)) (.sl (.int .i64))) x.1, .dat (.int .i64) x.2]
  hin x := []
  F x := f93 x.1 x.2
  ret y := [.raw true [(.osl 0), (.osl 1)], .raw false [(.osl 2)], .dat (.int .i64) y.1]
  hout y := [(0, .arr 3 (.int .i64) y.2.1), (1, .arr 33 (.int .i64) y.2.2.1), (2, .arr 3 (.int .i64) y.2.2.2)]
  nout := 3
theorem C93_vc (a : (List Int) × (List Int)) (wid : Int) (y : Int × (List Int) × (List Int) × (List Int)) (hF : f93 a wid = some y) : vc Tryz.prog tab Tryz.f93.ntmps 0 (match Tryz.f93.body with | some c => c | none => .skip) (retK tab C93 Tryz.f93.results.toList y) (C93.shIn (a, wid)).st := by
  unfold f93 at hF
  refine Or.inl ?_
  obtain ⟨z3, hz3, hF⟩ := bindE hF
  refine Or.inr ⟨Sum.elim (fun z3a => [(0, ⟨[(1, .dat (.int .i64) wid), (2, .raw false [(.ptr 0 0)]), (4, .raw false [(.ptr 1 0)])], [(0, .cells [(.d (.sl (.int .i64)) a.1), (.d (.sl (.int .i64)) a.2)]), (1, .cells [(.c (.slice none 0 0)), (.c (.slice none 0 0))])], 2⟩)]) (fun z3b => [(1, ⟨[(4, .raw false [(.ptr 0 0)]), (5, .raw false [(.c (.slice none 0 0))]), (6, .dat (.int .i64) z3b)], [(0, .cells [(.c (.slice none 0 0)), (.c (.slice none 0 0))])], 1⟩)]) z3, ?_, ?_⟩
  · have hF := hz3
    clear hz3
    unfold f93_j2 at hF
    refine Or.inl ?_
    obtain ⟨r4, hr4, hF⟩ := bindE hF
    refine Or.inl (And.intro f33_in (callV0 (callI C33 (a.1, a.2) r4 [] false C33_holds hr4 rfl rfl ?_)))
    refine (And.intro rfl (And.intro rfl (And.intro (fun h => nomatch h) (And.intro rfl (And.intro rfl (And.intro trivial (And.intro trivial ?_)))))))
    refine condI hF (fun hF => ?_) (fun hF => ?_)
    · refine Or.inl ?_
      refine Or.inl ?_
      have hz := someE hF
      subst hz
      refine Exists.intro [] (Exists.intro [] (Exists.intro [] (Exists.intro [] (Exists.intro [(0, some 1)] (And.intro rfl (And.intro rfl (And.intro (And.intro rfl (And.intro rfl trivial)) (And.intro rfl trivial))))))))
    · refine Or.inl ?_
      refine condI hF (fun hF => ?_) (fun hF => ?_)
      · refine Or.inl ?_
        refine Or.inl ?_
        have hz := someE hF
        subst hz
        refine Exists.intro [] (Exists.intro [] (Exists.intro [] (Exists.intro [] (Exists.intro [(0, some 1)] (And.intro rfl (And.intro rfl (And.intro (And.intro rfl (And.intro rfl trivial)) (And.intro rfl trivial))))))))
      · obtain ⟨z5, hz5, hF⟩ := bindE hF
        refine Or.inr ⟨[(0, ⟨[(1, .dat (.int .i64) wid), (2, .raw false [(.ptr 0 0)]), (4, .raw false [(.ptr 1 0)]), (26, .dat .bool z5)], [(0, .cells [(.d (.sl (.int .i64)) a.1), (.d (.sl (.int .i64)) a.2)]), (1, .cells [(.c (.slice none 0 0)), (.c (.slice none 0 0))])], 2⟩)], ?_, ?_⟩
        · have hF := hz5
          clear hz5
          unfold f93_j3 at hF
          refine condN hF (fun hF => ?_) (fun hF => ?_)
          · refine gdYF ?_
            refine gdYF ?_
            refine gdYF ?_
            refine guardI hF (fun hF => ?_)
            refine gdYF ?_
            refine gdYF ?_
            refine condF ?_
            have hz := someE hF
            subst hz
            refine Exists.intro [] (Exists.intro [] (Exists.intro [] (Exists.intro [] (Exists.intro [(0, some 0), (1, some 1)] (And.intro rfl (And.intro rfl (And.intro rfl (And.intro (And.intro rfl (And.intro rfl trivial)) (And.intro rfl (And.intro rfl trivial))))))))))
          · refine gdNF ?_
            refine gdNF ?_
            refine gdNF ?_
            refine gdNF ?_
            refine gdNF ?_
            refine condT ?_
            have hz := someE hF
            subst hz
            refine Exists.intro [] (Exists.intro [] (Exists.intro [] (Exists.intro [] (Exists.intro [(0, some 0), (1, some 1)] (And.intro rfl (And.intro rfl (And.intro rfl (And.intro (And.intro rfl (And.intro rfl trivial)) (And.intro rfl (And.intro rfl trivial))))))))))
        · refine And.intro ?_ trivial
          refine condI hF (fun hF => ?_) (fun hF => ?_)
          · refine Or.inl ?_
            refine Or.inl ?_
            have hz := someE hF
            subst hz
            refine Exists.intro [] (Exists.intro [] (Exists.intro [] (Exists.intro [] (Exists.intro [(0, some 1)] (And.intro rfl (And.intro rfl (And.intro (And.intro rfl (And.intro rfl trivial)) (And.intro rfl trivial))))))))
          · have hz := someE hF
            subst hz
            refine Exists.intro [] (Exists.intro [] (Exists.intro [] (Exists.intro [] (Exists.intro [(0, some 0), (1, some 1)] (And.intro rfl (And.intro rfl (And.intro (And.intro rfl (And.intro rfl trivial)) (And.intro rfl (And.intro rfl trivial)))))))))
  · rcases z3 with z3a | z3b
    · dsimp only [sumF] at hF
      refine And.intro ?_ trivial
      refine Or.inl ?_
      refine Exists.intro (.take 0 (.take 1 (.take 2 (.take 3 (.take 4 (.take 5 (.take 6 (.take 7 (.take 8 (.take 9 (.take 10 (.take 11 .done)))))))))))) (Exists.intro [] (Exists.intro [] (And.intro rfl ?_)))
      refine guardI hF (fun hF => ?_)
      refine guardI hF (fun hF => ?_)
      refine guardI hF (fun hF => ?_)
      refine Or.inl ?_
      refine guardI hF (fun hF => ?_)
      refine Or.inl ?_
      obtain ⟨q7_11, hq7_11, hF⟩ := bindE hF
      refine Or.inl (And.intro f132_in (callV0 (callI C132 [(rd (0 : Int) a.1 (0 : Int)), (IntKind.i64.wrap (Int.tdiv (rd (0 : Int) a.1 (1 : Int)) wid))] q7_11 [] true C132_holds hq7_11 rfl rfl ?_)))
      refine (And.intro rfl (And.intro (fun _ => rfl) (And.intro rfl (And.intro rfl (And.intro trivial (And.intro trivial ?_))))))
      refine Or.inl ?_
      refine Or.inl ?_
      refine Or.inl ?_
      refine Or.inl ?_
      obtain ⟨z8, hz8, hF⟩ := bindE hF
      refine loopI (Int × (List Int) × (List Int)) ((List Int) × (List Int)) (fun x => ⟨[(1, .dat (.int .i64) wid), (2, .raw false [(.ptr 0 0)]), (4, .raw false [(.ptr 1 0)]), (7, .dat (.int .i64) (rd (0 : Int) a.1 (1 : Int))), (8, .dat (.int .i64) (IntKind.i64.wrap (Int.tdiv (rd (0 : Int) a.1 (1 : Int)) wid))), (9, .raw false [(.ptr 2 0)]), (11, .raw false [(.osl 3)]), (60, .dat (.int .i64) (List.length q7_11.2.2 : Int)), (61, .dat (.int .i64) x.1)], [(0, .cells [(.d (.sl (.int .i64)) a.1), (.d (.sl (.int .i64)) a.2)]), (1, .cells [(.c (.slice none 0 0)), (.c (.slice none 0 0))]), (2, .cells [(.osl 4), (.osl 5)]), (3, .arr 3 (.int .i64) x.2.1), (4, .arr 3 (.int .i64) q7_11.2.1), (5, .arr 33 (.int .i64) x.2.2)], 6⟩) (fun z => [(3, ⟨[(4, .raw false [(.ptr 0 0)]), (9, .raw false [(.ptr 1 0)]), (11, .raw false [(.osl 2)])], [(0, .cells [(.c (.slice none 0 0)), (.c (.slice none 0 0))]), (1, .cells [(.osl 3), (.osl 4)]), (2, .arr 3 (.int .i64) z.1), (3, .arr 3 (.int .i64) q7_11.2.1), (4, .arr 33 (.int .i64) z.2)], 5⟩)]) (loopF (fun go x => f93_l6 a wid q7_11 go x.1 x.2.1 x.2.2)) fuelN ((0 : Int), [], q7_11.2.2) z8 (And.intro hz8 (And.intro (Exists.intro [] (Exists.intro [] (Exists.intro [] (Exists.intro [] (Exists.intro [(0, some 0), (1, some 1), (2, some 5), (3, none), (4, some 3), (5, some 4)] (And.intro rfl (And.intro rfl (And.intro rfl (And.intro rfl (And.intro rfl (And.intro rfl (And.intro (And.intro rfl (And.intro rfl (And.intro rfl (And.intro rfl trivial)))) (And.intro rfl (And.intro rfl (And.intro rfl (And.intro rfl (And.intro rfl (And.intro rfl trivial)))))))))))))))))) (And.intro (fun _ _ h => loopZ h) (And.intro (fun m => curI (fun v61 => curI (fun l3 => fun l5 z hF => ?_))) ?_))))
      · have hF : f93_l6 a wid q7_11 (loopF (fun go x => f93_l6 a wid q7_11 go x.1 x.2.1 x.2.2) m) v61 l3 l5 = some z := hF
        unfold f93_l6 at hF
        refine Or.inl ?_
        refine Or.inl ?_
        refine condI hF (fun hF => ?_) (fun hF => ?_)
        · refine Or.inl ?_
          refine Or.inl ?_
          refine Or.inl ?_
          refine Exists.intro (.take 0 (.take 1 (.take 2 (.take 3 (.take 4 (.take 5 (.take 6 (.take 7 (.take 8 (.take 9 (.take 10 (.take 11 .done)))))))))))) (Exists.intro [] (Exists.intro [] (And.intro rfl ?_)))
          refine guardI hF (fun hF => ?_)
          refine guardI hF (fun hF => ?_)
          refine Or.inl ?_
          refine Or.inl ?_
          obtain ⟨z9, hz9, hF⟩ := bindE hF
          refine loopI (Int × Int) Int (fun x => ⟨[(1, .dat (.int .i64) wid), (2, .raw false [(.ptr 0 0)]), (4, .raw false [(.ptr 1 0)]), (7, .dat (.int .i64) (rd (0 : Int) a.1 (1 : Int))), (8, .dat (.int .i64) (IntKind.i64.wrap (Int.tdiv (rd (0 : Int) a.1 (1 : Int)) wid))), (9, .raw false [(.ptr 2 0)]), (11, .raw false [(.osl 3)]), (12, .dat (.int .i64) v61), (13, .dat (.int .i64) x.1), (14, .dat (.int .i64) x.2), (60, .dat (.int .i64) (List.length q7_11.2.2 : Int)), (61, .dat (.int .i64) v61)], [(0, .cells [(.d (.sl (.int .i64)) a.1), (.d (.sl (.int .i64)) a.2)]), (1, .cells [(.c (.slice none 0 0)), (.c (.slice none 0 0))]), (2, .cells [(.osl 4), (.osl 5)]), (3, .arr 3 (.int .i64) l3), (4, .arr 3 (.int .i64) q7_11.2.1), (5, .arr 33 (.int .i64) l5)], 6⟩) (fun z => [(5, ⟨[(1, .dat (.int .i64) wid), (2, .raw false [(.ptr 0 0)]), (4, .raw false [(.ptr 1 0)]), (7, .dat (.int .i64) (rd (0 : Int) a.1 (1 : Int))), (8, .dat (.int .i64) (IntKind.i64.wrap (Int.tdiv (rd (0 : Int) a.1 (1 : Int)) wid))), (9, .raw false [(.ptr 2 0)]), (11, .raw false [(.osl 3)]), (12, .dat (.int .i64) v61), (13, .dat (.int .i64) z), (60, .dat (.int .i64) (List.length q7_11.2.2 : Int)), (61, .dat (.int .i64) v61)], [(0, .cells [(.d (.sl (.int .i64)) a.1), (.d (.sl (.int .i64)) a.2)]), (1, .cells [(.c (.slice none 0 0)), (.c (.slice none 0 0))]), (2, .cells [(.osl 4), (.osl 5)]), (3, .arr 3 (.int .i64) l3), (4, .arr 3 (.int .i64) q7_11.2.1), (5, .arr 33 (.int .i64) l5)], 6⟩)]) (loopF (fun go x => f93_l7 a wid v61 go x.1 x.2)) fuelN ((IntKind.i64.wrap ((IntKind.i64.wrap ((IntKind.i64.wrap (Int.tdiv v61 (IntKind.i64.wrap (Int.tdiv (rd (0 : Int) a.1 (1 : Int)) wid)))) * (rd (0 : Int) a.1 (1 : Int)))) + (IntKind.i64.wrap ((Int.tmod v61 (IntKind.i64.wrap (Int.tdiv (rd (0 : Int) a.1 (1 : Int)) wid))) * wid)))), (IntKind.i64.wrap ((IntKind.i64.wrap ((IntKind.i64.wrap ((IntKind.i64.wrap (Int.tdiv v61 (IntKind.i64.wrap (Int.tdiv (rd (0 : Int) a.1 (1 : Int)) wid)))) * (rd (0 : Int) a.1 (1 : Int)))) + (IntKind.i64.wrap ((Int.tmod v61 (IntKind.i64.wrap (Int.tdiv (rd (0 : Int) a.1 (1 : Int)) wid))) * wid)))) + (1 : Int)))) z9 (And.intro hz9 (And.intro (Exists.intro [] (Exists.intro [] (Exists.intro [] (Exists.intro [] (Exists.intro [(0, some 0), (1, some 1), (2, some 2), (3, some 3), (4, some 4), (5, some 5)] (And.intro rfl (And.intro rfl (And.intro rfl (And.intro rfl (And.intro rfl (And.intro rfl (And.intro rfl (And.intro rfl (And.intro rfl (And.intro (And.intro rfl (And.intro rfl (And.intro rfl (And.intro rfl trivial)))) (And.intro rfl (And.intro rfl (And.intro rfl (And.intro rfl (And.intro rfl (And.intro rfl trivial))))))))))))))))))))) (And.intro (fun _ _ h => loopZ h) (And.intro (fun m => curI (fun best => fun at_ z hF => ?_)) ?_))))
          · have hF : f93_l7 a wid v61 (loopF (fun go x => f93_l7 a wid v61 go x.1 x.2) m) best at_ = some z := hF
            unfold f93_l7 at hF
            refine Or.inl ?_
            refine Or.inl ?_
            refine Exists.intro (.take 0 (.take 1 (.take 2 (.take 3 (.take 4 (.take 5 (.take 6 (.take 7 (.take 8 (.take 9 (.take 10 (.take 11 (.take 12 (.take 13 (.take 14 .done))))))))))))))) (Exists.intro [] (Exists.intro [] (And.intro rfl ?_)))
            refine guardI hF (fun hF => ?_)
            refine guardI hF (fun hF => ?_)
            refine condI hF (fun hF => ?_) (fun hF => ?_)
            · refine Or.inl ?_
              refine Or.inl ?_
              refine Exists.intro (.take 0 (.take 1 (.take 2 (.take 3 (.take 4 (.take 5 (.take 6 (.take 7 (.take 8 (.take 9 (.take 10 .done))))))))))) (Exists.intro [] (Exists.intro [] (And.intro rfl ?_)))
              refine guardI hF (fun hF => ?_)
              refine guardI hF (fun hF => ?_)
              refine condI hF (fun hF => ?_) (fun hF => ?_)
              · refine Exists.intro (at_, (IntKind.i64.wrap (at_ + (1 : Int)))) (And.intro hF (Exists.intro [] (Exists.intro [] (Exists.intro [] (Exists.intro [] (Exists.intro [(0, some 0), (1, some 1), (2, some 2), (3, some 3), (4, some 4), (5, some 5)] (And.intro rfl (And.intro rfl (And.intro rfl (And.intro rfl (And.intro rfl (And.intro rfl (And.intro rfl (And.intro rfl (And.intro rfl (And.intro (And.intro rfl (And.intro rfl (And.intro rfl (And.intro rfl trivial)))) (And.intro rfl (And.intro rfl (And.intro rfl (And.intro rfl (And.intro rfl (And.intro rfl trivial))))))))))))))))))))))
              · refine Exists.intro (best, (IntKind.i64.wrap (at_ + (1 : Int)))) (And.intro hF (Exists.intro [] (Exists.intro [] (Exists.intro [] (Exists.intro [] (Exists.intro [(0, some 0), (1, some 1), (2, some 2), (3, some 3), (4, some 4), (5, some 5)] (And.intro rfl (And.intro rfl (And.intro rfl (And.intro rfl (And.intro rfl (And.intro rfl (And.intro rfl (And.intro rfl (And.intro rfl (And.intro (And.intro rfl (And.intro rfl (And.intro rfl (And.intro rfl trivial)))) (And.intro rfl (And.intro rfl (And.intro rfl (And.intro rfl (And.intro rfl (And.intro rfl trivial))))))))))))))))))))))
            · have hz := someE hF
              subst hz
              refine Exists.intro [] (Exists.intro [] (Exists.intro [] (Exists.intro [] (Exists.intro [(0, some 0), (1, some 1), (2, some 2), (3, some 3), (4, some 4), (5, some 5)] (And.intro rfl (And.intro rfl (And.intro rfl (And.intro rfl (And.intro rfl (And.intro rfl (And.intro rfl (And.intro rfl (And.intro (And.intro rfl (And.intro rfl (And.intro rfl (And.intro rfl trivial)))) (And.intro rfl (And.intro rfl (And.intro rfl (And.intro rfl (And.intro rfl (And.intro rfl trivial)))))))))))))))))))
          · refine And.intro ?_ trivial
            refine Or.inl ?_
            refine Exists.intro (.take 0 (.take 1 (.take 2 (.take 3 (.take 4 (.take 5 (.take 6 (.take 7 (.take 8 (.alt 9 .done .done)))))))))) (Exists.intro [] (Exists.intro [] (And.intro rfl ?_)))
            refine guardI hF (fun hF => ?_)
            refine guardI hF (fun hF => ?_)
            refine And.intro trivial ?_
            refine Or.inl ?_
            refine Or.inl ?_
            refine Or.inl ?_
            refine guardI hF (fun hF => ?_)
            refine Exists.intro ((IntKind.i64.wrap (v61 + (1 : Int))), (l3 ++ ([z9])), (List.set l5 (Int.toNat v61) (rd (0 : Int) a.2 z9))) (And.intro hF (Exists.intro [] (Exists.intro [] (Exists.intro [] (Exists.intro [] (Exists.intro [(0, some 0), (1, some 1), (2, some 2), (3, some 7), (4, some 4), (5, some 5)] (And.intro rfl (And.intro rfl (And.intro rfl (And.intro rfl (And.intro rfl (And.intro rfl (And.intro (And.intro rfl (And.intro rfl (And.intro rfl (And.intro rfl trivial)))) (And.intro rfl (And.intro rfl (And.intro rfl (And.intro rfl (And.intro rfl (And.intro rfl trivial)))))))))))))))))))
        · have hz := someE hF
          subst hz
          refine Exists.intro [] (Exists.intro [] (Exists.intro [] (Exists.intro [] (Exists.intro [(0, some 1), (1, some 2), (2, some 3), (3, some 4), (4, some 5)] (And.intro rfl (And.intro (And.intro rfl (And.intro rfl (And.intro rfl trivial))) (And.intro rfl (And.intro rfl (And.intro rfl (And.intro rfl (And.intro rfl trivial)))))))))))
      · refine And.intro ?_ trivial
        refine Or.inl ?_
        refine Or.inl ?_
        have hy := someE hF
        subst hy
        refine And.intro rfl (Exists.intro [] (Exists.intro [] (Exists.intro [] (Exists.intro [] (Exists.intro [(0, some 3), (1, some 4), (2, some 2)] (And.intro rfl (And.intro rfl (And.intro (And.intro rfl (And.intro rfl trivial)) (And.intro rfl (And.intro rfl (And.intro rfl trivial)))))))))))
    · dsimp only [sumF] at hF
      refine And.intro ?_ trivial
      have hy := someE hF
      subst hy
      refine And.intro rfl (Exists.intro [] (Exists.intro [] (Exists.intro [] (Exists.intro [] (Exists.intro [(0, none), (1, none), (2, none)] (And.intro rfl (And.intro rfl (And.intro (And.intro rfl (And.intro rfl trivial)) (And.intro rfl (And.intro rfl (And.intro rfl trivial)))))))))))
theorem C93_holds : C93.Holds Tryz.prog 93 := holds_of_vc tab_ok mixed (fn := Tryz.f93) (by kernel_rfl) rfl C93 (fun x y hF => C93_vc x.1 x.2 y hF)
theorem f93_in : ∃ fn, Tryz.prog.funcs[93]? = some fn ∧ fn.body.isSome = true ∧ (fn.name == "runtime.NumGoroutine") = false := ⟨Tryz.f93, by kernel_rfl, by kernel_rfl, by kernel_rfl⟩
end Go.Proofs
namespace Go.Proofs
open Go.AM
-- carousel/tens.Reshape
def f94_j3 (a : (List Int) × (List Int)) (d : List Int) : Option Bool :=
  bindF (f33 (a.1, a.2)) fun r8 =>
  bif (!r8) then
    some true
  else
    bindF (f76 d) fun r9 =>
    some (!r9)
def f94_j2 (a : (List Int) × (List Int)) (d : List Int) : Option (Sum Unit Int) :=
  bindF (f94_j3 a d) fun z7 =>
  bif z7 then
    some (Sum.inr (1 : Int))
  else
    bindF (f77 d) fun q3_1 =>
    bif (q3_1 != (List.length a.2 : Int)) then
      some (Sum.inr (4 : Int))
    else
      some (Sum.inl ())
def f94 (a : (List Int) × (List Int)) (d : List Int) : Option (Int × (List Int) × (List Int)) :=
  bindF (f94_j2 a d) fun z5 =>
  sumF z5 (fun z5a =>
    bindF (f78 d) fun q5_1 =>
    bindF (f79 a.2) fun q5_4 =>
    some ((0 : Int), q5_1, q5_4)) (fun z5b =>
    some (z5b, [], []))
def C94 : Con where
  X := ((List Int) × (List Int)) × (List Int)
  Y := Int × (List Int) × (List Int)
  e := 0
  args x := [.dat (.p (.sl (.int .i64)) (.sl (.int .i64))) x.1, .dat (.sl (.int .i64)) x.2]
  hin x := []
  F x := f94 x.1 x.2
  ret y := [.raw true [(.osl 0), (.osl 1)], .dat (.int .i64) y.1]
  hout y := [(0, .arr 3 (.int .i64) y.2.1), (1, .arr 33 (.int .i64) y.2.2)]
  nout := 2
theorem C94_vc (a : (List Int) × (List Int)) (d : List Int) (y : Int × (List Int) × (List Int)) (hF : f94 a d = some y) : vc Tryz.prog tab Tryz.f94.ntmps 0 (match Tryz.f94.body with | some c => c | none => .skip) (retK tab C94 Tryz.f94.results.toList y) (C94.shIn (a, d)).st := by
  unfold f94 at hF
  refine Or.inl ?_
  obtain ⟨z5, hz5, hF⟩ := bindE hF
  refine Or.inr ⟨Sum.elim (fun z5a => [(0, ⟨[(1, .dat (.sl (.int .i64)) d), (2, .raw false [(.ptr 0 0)]), (4, .raw false [(.ptr 1 0)])], [(0, .cells [(.d (.sl (.int .i64)) a.1), (.d (.sl (.int .i64)) a.2)]), (1, .cells [(.c (.slice none 0 0)), (.c (.slice none 0 0))])], 2⟩)]) (fun z5b => [(1, ⟨[(4, .raw false [(.ptr 0 0)]), (5, .dat (.int .i64) z5b)], [(0, .cells [(.c (.slice none 0 0)), (.c (.slice none 0 0))])], 1⟩)]) z5, ?_, ?_⟩
  · have hF := hz5
    clear hz5
    unfold f94_j2 at hF
    obtain ⟨z7, hz7, hF⟩ := bindE hF
    refine Or.inr ⟨[(0, ⟨[(1, .dat (.sl (.int .i64)) d), (2, .raw false [(.ptr 0 0)]), (4, .raw false [(.ptr 1 0)]), (6, .dat .bool z7)], [(0, .cells [(.d (.sl (.int .i64)) a.1), (.d (.sl (.int .i64)) a.2)]), (1, .cells [(.c (.slice none 0 0)), (.c (.slice none 0 0))])], 2⟩)], ?_, ?_⟩
    · have hF := hz7
      clear hz7
      unfold f94_j3 at hF
      obtain ⟨r8, hr8, hF⟩ := bindE hF
      refine Or.inl (And.intro f33_in (callV0 (callI C33 (a.1, a.2) r8 [] false C33_holds hr8 rfl rfl ?_)))
      refine (And.intro rfl (And.intro rfl (And.intro (fun h => nomatch h) (And.intro rfl (And.intro rfl (And.intro trivial (And.intro trivial ?_)))))))
      refine condN hF (fun hF => ?_) (fun hF => ?_)
      · refine gdYF ?_
        obtain ⟨r9, hr9, hF⟩ := bindE hF
        refine Or.inl (And.intro f76_in (callV0 (callI C76 d r9 [] false C76_holds hr9 rfl rfl ?_)))
        refine (And.intro rfl (And.intro (fun h => nomatch h) (And.intro rfl (And.intro rfl (And.intro trivial (And.intro trivial ?_))))))
        refine gdYF ?_
        refine condF ?_
        have hz := someE hF
        subst hz
        refine Exists.intro [] (Exists.intro [] (Exists.intro [] (Exists.intro [] (Exists.intro [(0, some 0), (1, some 1)] (And.intro rfl (And.intro rfl (And.intro rfl (And.intro (And.intro rfl (And.intro rfl trivial)) (And.intro rfl (And.intro rfl trivial))))))))))
      · refine gdNF ?_
        refine gdNF ?_
        refine condT ?_
        have hz := someE hF
        subst hz
        refine Exists.intro [] (Exists.intro [] (Exists.intro [] (Exists.intro [] (Exists.intro [(0, some 0), (1, some 1)] (And.intro rfl (And.intro rfl (And.intro rfl (And.intro (And.intro rfl (And.intro rfl trivial)) (And.intro rfl (And.intro rfl trivial))))))))))
    · refine And.intro ?_ trivial
      refine condI hF (fun hF => ?_) (fun hF => ?_)
      · refine Or.inl ?_
        refine Or.inl ?_
        have hz := someE hF
        subst hz
        refine Exists.intro [] (Exists.intro [] (Exists.intro [] (Exists.intro [] (Exists.intro [(0, some 1)] (And.intro rfl (And.intro rfl (And.intro (And.intro rfl trivial) (And.intro rfl trivial))))))))
      · refine Or.inl ?_
        refine Exists.intro (.take 0 (.take 2 (.take 3 (.take 4 (.alt 1 (.take 5 (.take 6 .done)) .done))))) (Exists.intro [] (Exists.intro [] (And.intro rfl ?_)))
        refine And.intro trivial ?_
        obtain ⟨q3_1, hq3_1, hF⟩ := bindE hF
        refine Or.inl (And.intro f77_in (callV0 (callI C77 d q3_1 [] false C77_holds hq3_1 rfl rfl ?_)))
        refine (And.intro rfl (And.intro (fun h => nomatch h) (And.intro rfl (And.intro rfl (And.intro trivial (And.intro trivial ?_))))))
        refine condI hF (fun hF => ?_) (fun hF => ?_)
        · refine Or.inl ?_
          refine Or.inl ?_
          have hz := someE hF
          subst hz
          refine Exists.intro [] (Exists.intro [] (Exists.intro [] (Exists.intro [] (Exists.intro [(0, some 1)] (And.intro rfl (And.intro rfl (And.intro (And.intro rfl trivial) (And.intro rfl trivial))))))))
        · have hz := someE hF
          subst hz
          refine Exists.intro [] (Exists.intro [] (Exists.intro [] (Exists.intro [] (Exists.intro [(0, some 0), (1, some 1)] (And.intro rfl (And.intro rfl (And.intro (And.intro rfl (And.intro rfl trivial)) (And.intro rfl (And.intro rfl trivial)))))))))
  · rcases z5 with z5a | z5b
    · dsimp only [sumF] at hF
      refine And.intro ?_ trivial
      refine Or.inl ?_
      refine Exists.intro (.take 0 (.take 2 (.take 3 (.alt 1 (.alt 4 (.take 5 (.alt 6 (.take 7 .done) .done)) .done) .done)))) (Exists.intro [] (Exists.intro [] (And.intro rfl ?_)))
      refine And.intro trivial ?_
      obtain ⟨q5_1, hq5_1, hF⟩ := bindE hF
      refine Or.inl (And.intro f78_in (callV0 (callI C78 d q5_1 [] false C78_holds hq5_1 rfl rfl ?_)))
      refine (And.intro rfl (And.intro (fun h => nomatch h) (And.intro rfl (And.intro rfl (And.intro trivial (And.intro trivial ?_))))))
      refine And.intro trivial ?_
      obtain ⟨q5_4, hq5_4, hF⟩ := bindE hF
      refine Or.inl (And.intro f79_in (callV0 (callI C79 a.2 q5_4 [] false C79_holds hq5_4 rfl rfl ?_)))
      refine (And.intro rfl (And.intro (fun h => nomatch h) (And.intro rfl (And.intro rfl (And.intro trivial (And.intro trivial ?_))))))
      refine And.intro trivial ?_
      refine Or.inl ?_
      have hy := someE hF
      subst hy
      refine And.intro rfl (Exists.intro [] (Exists.intro [] (Exists.intro [] (Exists.intro [] (Exists.intro [(0, some 2), (1, some 3)] (And.intro rfl (And.intro rfl (And.intro (And.intro rfl trivial) (And.intro rfl (And.intro rfl trivial))))))))))
    · dsimp only [sumF] at hF
      refine And.intro ?_ trivial
      have hy := someE hF
      subst hy
      refine And.intro rfl (Exists.intro [] (Exists.intro [] (Exists.intro [] (Exists.intro [] (Exists.intro [(0, none), (1, none)] (And.intro rfl (And.intro rfl (And.intro (And.intro rfl trivial) (And.intro rfl (And.intro rfl trivial))))))))))
theorem C94_holds : C94.Holds Tryz.prog 94 := holds_of_vc tab_ok mixed (fn := Tryz.f94) (by kernel_rfl) rfl C94 (fun x y hF => C94_vc x.1 x.2 y hF)
theorem f94_in : ∃ fn, Tryz.prog.funcs[94]? = some fn ∧ fn.body.isSome = true ∧ (fn.name == "runtime.NumGoroutine") = false := ⟨Tryz.f94, by kernel_rfl, by kernel_rfl, by kernel_rfl⟩
end Go.Proofs
namespace Go.Proofs
open Go.AM
-- carousel/tape.one
def f43 (op : Int) (a : (List Int) × (List Int)) (k : Int) : Option (Int × (List Int) × (List Int)) :=
  bif (op == (5 : Int)) then
    bindF (f86 (a.1, a.2) k) fun r1 =>
    some (r1.1, r1.2.1, r1.2.2)
  else
    bif (op == (7 : Int)) then
      bindF (f87 (a.1, a.2)) fun r2 =>
      some (r2.1, r2.2.1, r2.2.2)
    else
      bif (op == (8 : Int)) then
        bindF (f88 (a.1, a.2) k) fun r3 =>
        some (r3.1, r3.2.1, r3.2.2)
      else
        bif (op == (9 : Int)) then
          bindF (f90 (a.1, a.2)) fun r4 =>
          bindF (f89 r4.1 r4.2) fun r5 =>
          some (r5.1, r5.2.1, r5.2.2)
        else
          bif (op == (10 : Int)) then
            bindF (f91 (a.1, a.2)) fun r6 =>
            bindF (f89 r6.1 r6.2) fun r7 =>
            some (r7.1, r7.2.1, r7.2.2)
          else
            bif (op == (11 : Int)) then
              bindF (f92 k (a.1, a.2)) fun r8 =>
              some (r8.1, r8.2.1, r8.2.2)
            else
              bif (op == (13 : Int)) then
                bindF (f93 (a.1, a.2) k) fun r9 =>
                some (r9.1, r9.2.1, r9.2.2.1)
              else
                bindF (f94 (a.1, a.2) ([(List.length a.2 : Int)])) fun r10 =>
                some (r10.1, r10.2.1, r10.2.2)
def C43 : Con where
  X := Int × ((List Int) × (List Int)) × Int
  Y := Int × (List Int) × (List Int)
  e := 0
  args x := [.dat (.int .i64) x.1, .dat (.p (.sl (.int .i64)) (.sl (.int .i64))) x.2.1, .dat (.int .i64) x.2.2]
  hin x := []
  F x := f43 x.1 x.2.1 x.2.2
  ret y := [.raw true [(.osl 0), (.osl 1)], .dat (.int .i64) y.1]
  hout y := [(0, .arr 3 (.int .i64) y.2.1), (1, .arr 33 (.int .i64) y.2.2)]
  nout := 2
theorem C43_vc (op : Int) (a : (List Int) × (List Int)) (k : Int) (y : Int × (List Int) × (List Int)) (hF : f43 op a k = some y) : vc Tryz.prog tab Tryz.f43.ntmps 0 (match Tryz.f43.body with | some c => c | none => .skip) (retK tab C43 Tryz.f43.results.toList y) (C43.shIn (op, a, k)).st := by
  unfold f43 at hF
  refine Or.inl ?_
  refine Or.inl ?_
  refine Or.inl ?_
  refine Or.inl ?_
  refine condI hF (fun hF => ?_) (fun hF => ?_)
  · refine Or.inl ?_
    obtain ⟨r1, hr1, hF⟩ := bindE hF
    refine Or.inl (And.intro f86_in (callV0 (callI C86 ((a.1, a.2), k) r1 [] false C86_holds hr1 rfl rfl ?_)))
    refine (And.intro rfl (And.intro rfl (And.intro rfl (And.intro (fun h => nomatch h) (And.intro rfl (And.intro rfl (And.intro trivial (And.intro trivial ?_))))))))
    refine Or.inl ?_
    have hy := someE hF
    subst hy
    refine And.intro rfl (Exists.intro [] (Exists.intro [] (Exists.intro [] (Exists.intro [] (Exists.intro [(0, some 2), (1, some 3)] (And.intro rfl (And.intro rfl (And.intro (And.intro rfl trivial) (And.intro rfl (And.intro rfl trivial))))))))))
  · refine Or.inl ?_
    refine condI hF (fun hF => ?_) (fun hF => ?_)
    · refine Or.inl ?_
      obtain ⟨r2, hr2, hF⟩ := bindE hF
      refine Or.inl (And.intro f87_in (callV0 (callI C87 (a.1, a.2) r2 [] false C87_holds hr2 rfl rfl ?_)))
      refine (And.intro rfl (And.intro rfl (And.intro (fun h => nomatch h) (And.intro rfl (And.intro rfl (And.intro trivial (And.intro trivial ?_)))))))
      refine Or.inl ?_
      have hy := someE hF
      subst hy
      refine And.intro rfl (Exists.intro [] (Exists.intro [] (Exists.intro [] (Exists.intro [] (Exists.intro [(0, some 2), (1, some 3)] (And.intro rfl (And.intro rfl (And.intro (And.intro rfl trivial) (And.intro rfl (And.intro rfl trivial))))))))))
    · refine Or.inl ?_
      refine condI hF (fun hF => ?_) (fun hF => ?_)
      · refine Or.inl ?_
        obtain ⟨r3, hr3, hF⟩ := bindE hF
        refine Or.inl (And.intro f88_in (callV0 (callI C88 ((a.1, a.2), k) r3 [] false C88_holds hr3 rfl rfl ?_)))
        refine (And.intro rfl (And.intro rfl (And.intro rfl (And.intro (fun h => nomatch h) (And.intro rfl (And.intro rfl (And.intro trivial (And.intro trivial ?_))))))))
        refine Or.inl ?_
        have hy := someE hF
        subst hy
        refine And.intro rfl (Exists.intro [] (Exists.intro [] (Exists.intro [] (Exists.intro [] (Exists.intro [(0, some 2), (1, some 3)] (And.intro rfl (And.intro rfl (And.intro (And.intro rfl trivial) (And.intro rfl (And.intro rfl trivial))))))))))
      · refine Or.inl ?_
        refine condI hF (fun hF => ?_) (fun hF => ?_)
        · refine Or.inl ?_
          obtain ⟨r4, hr4, hF⟩ := bindE hF
          refine Or.inl (And.intro f90_in (callV0 (callI C90 (a.1, a.2) r4 [] false C90_holds hr4 rfl rfl ?_)))
          refine (And.intro rfl (And.intro rfl (And.intro (fun h => nomatch h) (And.intro rfl (And.intro rfl (And.intro trivial (And.intro trivial ?_)))))))
          obtain ⟨r5, hr5, hF⟩ := bindE hF
          refine Or.inl (And.intro f89_in (callV0 (callI C89 (r4.1, r4.2) r5 [] false C89_holds hr5 rfl rfl ?_)))
          refine (And.intro rfl (And.intro rfl (And.intro (fun h => nomatch h) (And.intro rfl (And.intro rfl (And.intro trivial (And.intro trivial ?_)))))))
          refine Or.inl ?_
          have hy := someE hF
          subst hy
          refine And.intro rfl (Exists.intro [] (Exists.intro [] (Exists.intro [] (Exists.intro [] (Exists.intro [(0, some 2), (1, some 3)] (And.intro rfl (And.intro rfl (And.intro (And.intro rfl trivial) (And.intro rfl (And.intro rfl trivial))))))))))
        · refine Or.inl ?_
          refine condI hF (fun hF => ?_) (fun hF => ?_)
          · refine Or.inl ?_
            obtain ⟨r6, hr6, hF⟩ := bindE hF
            refine Or.inl (And.intro f91_in (callV0 (callI C91 (a.1, a.2) r6 [] false C91_holds hr6 rfl rfl ?_)))
            refine (And.intro rfl (And.intro rfl (And.intro (fun h => nomatch h) (And.intro rfl (And.intro rfl (And.intro trivial (And.intro trivial ?_)))))))
            obtain ⟨r7, hr7, hF⟩ := bindE hF
            refine Or.inl (And.intro f89_in (callV0 (callI C89 (r6.1, r6.2) r7 [] false C89_holds hr7 rfl rfl ?_)))
            refine (And.intro rfl (And.intro rfl (And.intro (fun h => nomatch h) (And.intro rfl (And.intro rfl (And.intro trivial (And.intro trivial ?_)))))))
            refine Or.inl ?_
            have hy := someE hF
            subst hy
            refine And.intro rfl (Exists.intro [] (Exists.intro [] (Exists.intro [] (Exists.intro [] (Exists.intro [(0, some 2), (1, some 3)] (And.intro rfl (And.intro rfl (And.intro (And.intro rfl trivial) (And.intro rfl (And.intro rfl trivial))))))))))
          · refine Or.inl ?_
            refine condI hF (fun hF => ?_) (fun hF => ?_)
            · refine Or.inl ?_
              obtain ⟨r8, hr8, hF⟩ := bindE hF
              refine Or.inl (And.intro f92_in (callV0 (callI C92 (k, (a.1, a.2)) r8 [] false C92_holds hr8 rfl rfl ?_)))
              refine (And.intro rfl (And.intro rfl (And.intro rfl (And.intro (fun h => nomatch h) (And.intro rfl (And.intro rfl (And.intro trivial (And.intro trivial ?_))))))))
              refine Or.inl ?_
              have hy := someE hF
              subst hy
              refine And.intro rfl (Exists.intro [] (Exists.intro [] (Exists.intro [] (Exists.intro [] (Exists.intro [(0, some 2), (1, some 3)] (And.intro rfl (And.intro rfl (And.intro (And.intro rfl trivial) (And.intro rfl (And.intro rfl trivial))))))))))
            · refine Or.inl ?_
              refine condI hF (fun hF => ?_) (fun hF => ?_)
              · refine Or.inl ?_
                obtain ⟨r9, hr9, hF⟩ := bindE hF
                refine Or.inl (And.intro f93_in (callV0 (callI C93 ((a.1, a.2), k) r9 [] false C93_holds hr9 rfl rfl ?_)))
                refine (And.intro rfl (And.intro rfl (And.intro rfl (And.intro (fun h => nomatch h) (And.intro rfl (And.intro rfl (And.intro trivial (And.intro trivial ?_))))))))
                refine Or.inl ?_
                refine Or.inl ?_
                refine Or.inl ?_
                have hy := someE hF
                subst hy
                refine And.intro rfl (Exists.intro [] (Exists.intro [] (Exists.intro [] (Exists.intro [] (Exists.intro [(0, some 2), (1, some 3)] (And.intro rfl (And.intro rfl (And.intro (And.intro rfl trivial) (And.intro rfl (And.intro rfl trivial))))))))))
              · refine Or.inl ?_
                refine Or.inl ?_
                obtain ⟨r10, hr10, hF⟩ := bindE hF
                refine Or.inl (And.intro f94_in (callV0 (callI C94 ((a.1, a.2), [(List.length a.2 : Int)]) r10 [] true C94_holds hr10 rfl rfl ?_)))
                refine (And.intro rfl (And.intro rfl (And.intro rfl (And.intro (fun _ => rfl) (And.intro rfl (And.intro rfl (And.intro trivial (And.intro trivial ?_))))))))
                refine Or.inl ?_
                have hy := someE hF
                subst hy
                refine And.intro rfl (Exists.intro [] (Exists.intro [] (Exists.intro [] (Exists.intro [] (Exists.intro [(0, some 3), (1, some 4)] (And.intro rfl (And.intro rfl (And.intro (And.intro rfl trivial) (And.intro rfl (And.intro rfl trivial))))))))))
theorem C43_holds : C43.Holds Tryz.prog 43 := holds_of_vc tab_ok mixed (fn := Tryz.f43) (by kernel_rfl) rfl C43 (fun x y hF => C43_vc x.1 x.2.1 x.2.2 y hF)
theorem f43_in : ∃ fn, Tryz.prog.funcs[43]? = some fn ∧ fn.body.isSome = true ∧ (fn.name == "runtime.NumGoroutine") = false := ⟨Tryz.f43, by kernel_rfl, by kernel_rfl, by kernel_rfl⟩
end Go.Proofs
namespace Go.Proofs
open Go.AM
-- (*carousel/tape.Tape).Do
def f17_j1 (t_l : List (Int × Int × Int × Int × (List Int) × (List Int))) (op : Int) (a : Int) (b : Int) : Option (Sum (List (Int × Int × Int × Int × (List Int) × (List Int))) (Int × (List (Int × Int × Int × Int × (List Int) × (List Int))))) :=
  bif (decide ((List.length t_l : Int) ≥ (512 : Int))) then
    some (Sum.inr ((2 : Int), t_l))
  else
    bif (decide (op < (2 : Int))) then
      some (Sum.inr ((1 : Int), t_l))
    else
      bif (decide (op > (14 : Int))) then
        some (Sum.inr ((1 : Int), t_l))
      else
        bindF (f39 t_l a) fun r5 =>
        bif (!r5.1) then
          some (Sum.inr ((1 : Int), r5.2))
        else
          bindF (f40 op) fun r6 =>
          bif r6 then
            bindF (f39 r5.2 b) fun r7 =>
            bif (!r7.1) then
              some (Sum.inr ((1 : Int), r7.2))
            else
              some (Sum.inl r7.2)
          else
            some (Sum.inl r5.2)
def f17_j2 (op : Int) (k : Int) : Option Int :=
  bindF (f41 op) fun r10 =>
  bif r10 then
    some k
  else
    some (0 : Int)
def f17_j3 (op : Int) (a : Int) (b : Int) (k : Int) (z4a : List (Int × Int × Int × Int × (List Int) × (List Int))) : Option (Int × Int × (List Int) × (List Int)) :=
  bindF (f40 op) fun r13 =>
  bif r13 then
    guardF (0 ≤ a ∧ a < (List.length z4a : Int)) <|
    guardF (0 ≤ b ∧ b < (List.length z4a : Int)) <|
    bindF (f42 op ((((((rd (Ty.z (.p (.int .i64) (.p (.int .i64) (.p (.int .i64) (.p (.int .i64) (.p (.sl (.int .i64)) (.sl (.int .i64)))))))) z4a a).2).2).2).2).1, (((((rd (Ty.z (.p (.int .i64) (.p (.int .i64) (.p (.int .i64) (.p (.int .i64) (.p (.sl (.int .i64)) (.sl (.int .i64)))))))) z4a a).2).2).2).2).2) ((((((rd (Ty.z (.p (.int .i64) (.p (.int .i64) (.p (.int .i64) (.p (.int .i64) (.p (.sl (.int .i64)) (.sl (.int .i64)))))))) z4a b).2).2).2).2).1, (((((rd (Ty.z (.p (.int .i64) (.p (.int .i64) (.p (.int .i64) (.p (.int .i64) (.p (.sl (.int .i64)) (.sl (.int .i64)))))))) z4a b).2).2).2).2).2) k) fun q11_18 =>
    some (q11_18.1, b, q11_18.2.1, q11_18.2.2)
  else
    guardF (0 ≤ a ∧ a < (List.length z4a : Int)) <|
    bindF (f43 op ((((((rd (Ty.z (.p (.int .i64) (.p (.int .i64) (.p (.int .i64) (.p (.int .i64) (.p (.sl (.int .i64)) (.sl (.int .i64)))))))) z4a a).2).2).2).2).1, (((((rd (Ty.z (.p (.int .i64) (.p (.int .i64) (.p (.int .i64) (.p (.int .i64) (.p (.sl (.int .i64)) (.sl (.int .i64)))))))) z4a a).2).2).2).2).2) k) fun q11_24 =>
    some (q11_24.1, (-1 : Int), q11_24.2.1, q11_24.2.2)
def f17 (t_l : List (Int × Int × Int × Int × (List Int) × (List Int))) (op : Int) (a : Int) (b : Int) (k : Int) : Option (Int × Int × (List (Int × Int × Int × Int × (List Int) × (List Int)))) :=
  bindF (f17_j1 t_l op a b) fun z4 =>
  sumF z4 (fun z4a =>
    bindF (f17_j2 op k) fun z9 =>
    bindF (f17_j3 op a b k z4a) fun z12 =>
    bif (z12.1 != (0 : Int)) then
      some ((0 : Int), z12.1, z4a)
    else
      bindF (f34 z4a (op, a, z12.2.1, z9, z12.2.2.1, z12.2.2.2)) fun r14 =>
      some (r14.1, (0 : Int), r14.2)) (fun z4b =>
    some ((0 : Int), z4b.1, z4b.2))
def C17 : Con where
  X := (List (Int × Int × Int × Int × (List Int) × (List Int))) × Int × Int × Int × Int
  Y := Int × Int × (List (Int × Int × Int × Int × (List Int) × (List Int)))
  e := 2
  args x := [.raw false [(.ptr 0 0)], .dat (.int .i64) x.2.1, .dat (.int .i64) x.2.2.1, .dat (.int .i64) x.2.2.2.1, .dat (.int .i64) x.2.2.2.2]
  hin x := [(0, .cells [(.osl 1)]), (1, .arr 74 (.p (.int .i64) (.p (.int .i64) (.p (.int .i64) (.p (.int .i64) (.p (.sl (.int .i64)) (.sl (.int .i64))))))) x.1)]
  F x := f17 x.1 x.2.1 x.2.2.1 x.2.2.2.1 x.2.2.2.2
  ret y := [.dat (.int .i64) y.1, .dat (.int .i64) y.2.1]
  hout y := [(0, .cells [(.osl 2)]), (2, .arr 74 (.p (.int .i64) (.p (.int .i64) (.p (.int .i64) (.p (.int .i64) (.p (.sl (.int .i64)) (.sl (.int .i64))))))) y.2.2)]
  nout := 3
theorem C17_vc (t_l : List (Int × Int × Int × Int × (List Int) × (List Int))) (op : Int) (a : Int) (b : Int) (k : Int) (y : Int × Int × (List (Int × Int × Int × Int × (List Int) × (List Int)))) (hF : f17 t_l op a b k = some y) : vc Tryz.prog tab Tryz.f17.ntmps 2 (match Tryz.f17.body with | some c => c | none => .skip) (retK tab C17 Tryz.f17.results.toList y) (C17.shIn (t_l, op, a, b, k)).st := by
  unfold f17 at hF
  refine Or.inl ?_
  obtain ⟨z4, hz4, hF⟩ := bindE hF
  refine Or.inr ⟨Sum.elim (fun z4a => [(0, ⟨[(0, .raw false [(.ptr 0 0)]), (1, .dat (.int .i64) op), (2, .dat (.int .i64) a), (3, .dat (.int .i64) b), (4, .dat (.int .i64) k)], [(0, .cells [(.osl 1)]), (1, .arr 74 (.p (.int .i64) (.p (.int .i64) (.p (.int .i64) (.p (.int .i64) (.p (.sl (.int .i64)) (.sl (.int .i64))))))) z4a)], 2⟩)]) (fun z4b => [(1, ⟨[(10, .dat (.int .i64) (0 : Int)), (11, .dat (.int .i64) z4b.1)], [(0, .cells [(.osl 1)]), (1, .arr 74 (.p (.int .i64) (.p (.int .i64) (.p (.int .i64) (.p (.int .i64) (.p (.sl (.int .i64)) (.sl (.int .i64))))))) z4b.2)], 2⟩)]) z4, ?_, ?_⟩
  · have hF := hz4
    clear hz4
    unfold f17_j1 at hF
    refine Or.inl ?_
    refine condI hF (fun hF => ?_) (fun hF => ?_)
    · refine Or.inl ?_
      have hz := someE hF
      subst hz
      refine Exists.intro [] (Exists.intro [] (Exists.intro [] (Exists.intro [] (Exists.intro [(0, some 0), (1, some 1)] (And.intro rfl (And.intro rfl (And.intro rfl (And.intro trivial (And.intro rfl (And.intro rfl trivial))))))))))
    · refine Or.inl ?_
      refine condN hF (fun hF => ?_) (fun hF => ?_)
      · refine gdYF ?_
        refine condF ?_
        refine condN hF (fun hF => ?_) (fun hF => ?_)
        · refine gdYF ?_
          refine gdYF ?_
          obtain ⟨r5, hr5, hF⟩ := bindE hF
          refine Or.inl (And.intro f39_in (callV0 (callI C39 (t_l, a) r5 [(0, some 0), (1, some 1)] false C39_holds hr5 rfl rfl ?_)))
          refine (And.intro rfl (And.intro (fun h => nomatch h) (And.intro rfl (And.intro rfl (And.intro (And.intro rfl trivial) (And.intro (And.intro rfl (And.intro rfl trivial)) ?_))))))
          refine gdYF ?_
          refine condF ?_
          refine condN hF (fun hF => ?_) (fun hF => ?_)
          · refine gdYF ?_
            obtain ⟨r6, hr6, hF⟩ := bindE hF
            refine Or.inl (And.intro f40_in (callV0 (callI C40 op r6 [] false C40_holds hr6 rfl rfl ?_)))
            refine (And.intro rfl (And.intro (fun h => nomatch h) (And.intro rfl (And.intro rfl (And.intro trivial (And.intro trivial ?_))))))
            refine gdYF ?_
            refine condI hF (fun hF => ?_) (fun hF => ?_)
            · refine gdYT ?_
              refine gdYT ?_
              obtain ⟨r7, hr7, hF⟩ := bindE hF
              refine Or.inl (And.intro f39_in (callV0 (callI C39 (r5.2, b) r7 [(0, some 0), (1, some 1)] false C39_holds hr7 rfl rfl ?_)))
              refine (And.intro rfl (And.intro (fun h => nomatch h) (And.intro rfl (And.intro rfl (And.intro (And.intro rfl trivial) (And.intro (And.intro rfl (And.intro rfl trivial)) ?_))))))
              refine gdYT ?_
              refine gdYF ?_
              refine condT ?_
              refine condF ?_
              refine condI hF (fun hF => ?_) (fun hF => ?_)
              · refine Or.inl ?_
                have hz := someE hF
                subst hz
                refine Exists.intro [] (Exists.intro [] (Exists.intro [] (Exists.intro [] (Exists.intro [(0, some 0), (1, some 1)] (And.intro rfl (And.intro rfl (And.intro rfl (And.intro trivial (And.intro rfl (And.intro rfl trivial))))))))))
              · have hz := someE hF
                subst hz
                refine Exists.intro [] (Exists.intro [] (Exists.intro [] (Exists.intro [] (Exists.intro [(0, some 0), (1, some 1)] (And.intro rfl (And.intro rfl (And.intro rfl (And.intro rfl (And.intro rfl (And.intro (And.intro rfl trivial) (And.intro rfl (And.intro rfl trivial))))))))))))
            · refine gdNT ?_
              refine gdNT ?_
              refine gdNT ?_
              refine gdYF ?_
              refine condF ?_
              refine condF ?_
              refine condF ?_
              have hz := someE hF
              subst hz
              refine Exists.intro [] (Exists.intro [] (Exists.intro [] (Exists.intro [] (Exists.intro [(0, some 0), (1, some 1)] (And.intro rfl (And.intro rfl (And.intro rfl (And.intro rfl (And.intro rfl (And.intro (And.intro rfl trivial) (And.intro rfl (And.intro rfl trivial))))))))))))
          · refine gdNF ?_
            refine gdNF ?_
            refine gdNF ?_
            refine condT ?_
            refine condT ?_
            refine Or.inl ?_
            have hz := someE hF
            subst hz
            refine Exists.intro [] (Exists.intro [] (Exists.intro [] (Exists.intro [] (Exists.intro [(0, some 0), (1, some 1)] (And.intro rfl (And.intro rfl (And.intro rfl (And.intro trivial (And.intro rfl (And.intro rfl trivial))))))))))
        · refine gdNF ?_
          refine gdNF ?_
          refine gdNF ?_
          refine condT ?_
          refine gdNF ?_
          refine gdNF ?_
          refine gdNF ?_
          refine gdNF ?_
          refine condT ?_
          refine condT ?_
          refine Or.inl ?_
          have hz := someE hF
          subst hz
          refine Exists.intro [] (Exists.intro [] (Exists.intro [] (Exists.intro [] (Exists.intro [(0, some 0), (1, some 1)] (And.intro rfl (And.intro rfl (And.intro rfl (And.intro trivial (And.intro rfl (And.intro rfl trivial))))))))))
      · refine gdNF ?_
        refine condT ?_
        refine gdNF ?_
        refine gdNF ?_
        refine gdNF ?_
        refine gdNF ?_
        refine condT ?_
        refine gdNF ?_
        refine gdNF ?_
        refine gdNF ?_
        refine gdNF ?_
        refine condT ?_
        refine condT ?_
        refine Or.inl ?_
        have hz := someE hF
        subst hz
        refine Exists.intro [] (Exists.intro [] (Exists.intro [] (Exists.intro [] (Exists.intro [(0, some 0), (1, some 1)] (And.intro rfl (And.intro rfl (And.intro rfl (And.intro trivial (And.intro rfl (And.intro rfl trivial))))))))))
  · rcases z4 with z4a | z4b
    · dsimp only [sumF] at hF
      refine And.intro ?_ trivial
      refine Or.inl ?_
      refine Or.inl ?_
      obtain ⟨z9, hz9, hF⟩ := bindE hF
      refine Or.inr ⟨[(0, ⟨[(0, .raw false [(.ptr 0 0)]), (1, .dat (.int .i64) op), (2, .dat (.int .i64) a), (3, .dat (.int .i64) b), (4, .dat (.int .i64) k), (12, .raw false [(.ptr 2 0)])], [(0, .cells [(.osl 1)]), (1, .arr 74 (.p (.int .i64) (.p (.int .i64) (.p (.int .i64) (.p (.int .i64) (.p (.sl (.int .i64)) (.sl (.int .i64))))))) z4a), (2, .cells [(.d (.int .i64) op), (.d (.int .i64) a), (.d (.int .i64) (-1 : Int)), (.d (.int .i64) z9), (.c (.slice none 0 0)), (.c (.slice none 0 0))])], 3⟩)], ?_, ?_⟩
      · have hF := hz9
        clear hz9
        unfold f17_j2 at hF
        refine Or.inl ?_
        obtain ⟨r10, hr10, hF⟩ := bindE hF
        refine Or.inl (And.intro f41_in (callV0 (callI C41 op r10 [] false C41_holds hr10 rfl rfl ?_)))
        refine (And.intro rfl (And.intro (fun h => nomatch h) (And.intro rfl (And.intro rfl (And.intro trivial (And.intro trivial ?_))))))
        refine condI hF (fun hF => ?_) (fun hF => ?_)
        · refine Or.inl ?_
          have hz := someE hF
          subst hz
          refine Exists.intro [] (Exists.intro [] (Exists.intro [] (Exists.intro [] (Exists.intro [(0, some 0), (1, some 1), (2, some 2)] (And.intro rfl (And.intro rfl (And.intro rfl (And.intro rfl (And.intro rfl (And.intro (And.intro rfl (And.intro rfl trivial)) (And.intro rfl (And.intro rfl (And.intro rfl trivial)))))))))))))
        · have hz := someE hF
          subst hz
          refine Exists.intro [] (Exists.intro [] (Exists.intro [] (Exists.intro [] (Exists.intro [(0, some 0), (1, some 1), (2, some 2)] (And.intro rfl (And.intro rfl (And.intro rfl (And.intro rfl (And.intro rfl (And.intro (And.intro rfl (And.intro rfl trivial)) (And.intro rfl (And.intro rfl (And.intro rfl trivial)))))))))))))
      · refine And.intro ?_ trivial
        refine Or.inl ?_
        obtain ⟨z12, hz12, hF⟩ := bindE hF
        refine Or.inr ⟨[(0, ⟨[(0, .raw false [(.ptr 0 0)]), (12, .raw false [(.ptr 2 0)]), (13, .dat (.int .i64) z12.1)], [(0, .cells [(.osl 1)]), (1, .arr 74 (.p (.int .i64) (.p (.int .i64) (.p (.int .i64) (.p (.int .i64) (.p (.sl (.int .i64)) (.sl (.int .i64))))))) z4a), (2, .cells [(.d (.int .i64) op), (.d (.int .i64) a), (.d (.int .i64) z12.2.1), (.d (.int .i64) z9), (.osl 3), (.osl 4)]), (3, .arr 3 (.int .i64) z12.2.2.1), (4, .arr 33 (.int .i64) z12.2.2.2)], 5⟩)], ?_, ?_⟩
        · have hF := hz12
          clear hz12
          unfold f17_j3 at hF
          refine Or.inl ?_
          obtain ⟨r13, hr13, hF⟩ := bindE hF
          refine Or.inl (And.intro f40_in (callV0 (callI C40 op r13 [] false C40_holds hr13 rfl rfl ?_)))
          refine (And.intro rfl (And.intro (fun h => nomatch h) (And.intro rfl (And.intro rfl (And.intro trivial (And.intro trivial ?_))))))
          refine condI hF (fun hF => ?_) (fun hF => ?_)
          · refine Or.inl ?_
            refine Or.inl ?_
            refine Exists.intro (.take 0 (.take 1 (.take 2 (.take 3 (.take 4 (.take 5 (.take 6 (.take 7 (.take 8 (.take 9 (.take 10 (.take 11 (.take 12 (.take 13 (.take 14 (.take 15 (.take 16 (.take 17 (.alt 18 (.take 19 (.take 20 (.take 21 (.take 22 (.alt 23 (.take 24 .done) .done))))) .done))))))))))))))))))) (Exists.intro [] (Exists.intro [] (And.intro rfl ?_)))
            refine guardI hF (fun hF => ?_)
            refine guardI hF (fun hF => ?_)
            refine And.intro trivial ?_
            obtain ⟨q11_18, hq11_18, hF⟩ := bindE hF
            refine Or.inl (And.intro f42_in (callV0 (callI C42 (op, ((((((rd (Ty.z (.p (.int .i64) (.p (.int .i64) (.p (.int .i64) (.p (.int .i64) (.p (.sl (.int .i64)) (.sl (.int .i64)))))))) z4a a).2).2).2).2).1, (((((rd (Ty.z (.p (.int .i64) (.p (.int .i64) (.p (.int .i64) (.p (.int .i64) (.p (.sl (.int .i64)) (.sl (.int .i64)))))))) z4a a).2).2).2).2).2), ((((((rd (Ty.z (.p (.int .i64) (.p (.int .i64) (.p (.int .i64) (.p (.int .i64) (.p (.sl (.int .i64)) (.sl (.int .i64)))))))) z4a b).2).2).2).2).1, (((((rd (Ty.z (.p (.int .i64) (.p (.int .i64) (.p (.int .i64) (.p (.int .i64) (.p (.sl (.int .i64)) (.sl (.int .i64)))))))) z4a b).2).2).2).2).2), k) q11_18 [] false C42_holds hq11_18 rfl rfl ?_)))
            refine (And.intro rfl (And.intro rfl (And.intro rfl (And.intro rfl (And.intro rfl (And.intro rfl (And.intro (fun h => nomatch h) (And.intro rfl (And.intro rfl (And.intro trivial (And.intro trivial ?_)))))))))))
            refine And.intro trivial ?_
            refine Or.inl ?_
            have hz := someE hF
            subst hz
            refine Exists.intro [] (Exists.intro [] (Exists.intro [] (Exists.intro [] (Exists.intro [(0, some 0), (1, some 1), (2, some 2), (3, some 3), (4, some 4)] (And.intro rfl (And.intro rfl (And.intro (And.intro rfl (And.intro rfl trivial)) (And.intro rfl (And.intro rfl (And.intro rfl (And.intro rfl (And.intro rfl trivial))))))))))))
          · refine guardI hF (fun hF => ?_)
            obtain ⟨q11_24, hq11_24, hF⟩ := bindE hF
            refine Or.inl (And.intro f43_in (callV0 (callI C43 (op, ((((((rd (Ty.z (.p (.int .i64) (.p (.int .i64) (.p (.int .i64) (.p (.int .i64) (.p (.sl (.int .i64)) (.sl (.int .i64)))))))) z4a a).2).2).2).2).1, (((((rd (Ty.z (.p (.int .i64) (.p (.int .i64) (.p (.int .i64) (.p (.int .i64) (.p (.sl (.int .i64)) (.sl (.int .i64)))))))) z4a a).2).2).2).2).2), k) q11_24 [] false C43_holds hq11_24 rfl rfl ?_)))
            refine (And.intro rfl (And.intro rfl (And.intro rfl (And.intro rfl (And.intro (fun h => nomatch h) (And.intro rfl (And.intro rfl (And.intro trivial (And.intro trivial ?_)))))))))
            refine Or.inl ?_
            have hz := someE hF
            subst hz
            refine Exists.intro [] (Exists.intro [] (Exists.intro [] (Exists.intro [] (Exists.intro [(0, some 0), (1, some 1), (2, some 2), (3, some 3), (4, some 4)] (And.intro rfl (And.intro rfl (And.intro (And.intro rfl (And.intro rfl trivial)) (And.intro rfl (And.intro rfl (And.intro rfl (And.intro rfl (And.intro rfl trivial))))))))))))
        · refine And.intro ?_ trivial
          refine Or.inl ?_
          refine Or.inl ?_
          refine condI hF (fun hF => ?_) (fun hF => ?_)
          · refine Or.inl ?_
            have hy := someE hF
            subst hy
            refine And.intro rfl (Exists.intro [] (Exists.intro [] (Exists.intro [] (Exists.intro [] (Exists.intro [(0, some 0), (2, some 1)] (And.intro rfl (And.intro rfl (And.intro rfl (And.intro trivial (And.intro rfl (And.intro rfl trivial)))))))))))
          · refine Or.inl ?_
            obtain ⟨r14, hr14, hF⟩ := bindE hF
            refine Or.inl (And.intro f34_in (callV0 (callI C34 (z4a, (op, a, z12.2.1, z9, z12.2.2.1, z12.2.2.2)) r14 [(0, some 0), (1, some 1)] false C34_holds hr14 rfl rfl ?_)))
            refine (And.intro rfl (And.intro rfl (And.intro (fun h => nomatch h) (And.intro rfl (And.intro rfl (And.intro (And.intro rfl trivial) (And.intro (And.intro rfl (And.intro rfl trivial)) ?_)))))))
            have hy := someE hF
            subst hy
            refine And.intro rfl (Exists.intro [] (Exists.intro [] (Exists.intro [] (Exists.intro [] (Exists.intro [(0, some 0), (2, some 7)] (And.intro rfl (And.intro rfl (And.intro rfl (And.intro trivial (And.intro rfl (And.intro rfl trivial)))))))))))
    · dsimp only [sumF] at hF
      refine And.intro ?_ trivial
      have hy := someE hF
      subst hy
      refine And.intro rfl (Exists.intro [] (Exists.intro [] (Exists.intro [] (Exists.intro [] (Exists.intro [(0, some 0), (2, some 1)] (And.intro rfl (And.intro rfl (And.intro rfl (And.intro trivial (And.intro rfl (And.intro rfl trivial)))))))))))
theorem C17_holds : C17.Holds Tryz.prog 17 := holds_of_vc tab_ok mixed (fn := Tryz.f17) (by kernel_rfl) rfl C17 (fun x y hF => C17_vc x.1 x.2.1 x.2.2.1 x.2.2.2.1 x.2.2.2.2 y hF)
theorem f17_in : ∃ fn, Tryz.prog.funcs[17]? = some fn ∧ fn.body.isSome = true ∧ (fn.name == "runtime.NumGoroutine") = false := ⟨Tryz.f17, by kernel_rfl, by kernel_rfl, by kernel_rfl⟩
end Go.Proofs
namespace Go.Proofs
open Go.AM
-- (*carousel/tape.Tape).At
def f37 (t_l : List (Int × Int × Int × Int × (List Int) × (List Int))) (n : Int) : Option (Int × Int × Int × Int × Bool × (List Int) × (List Int) × (List (Int × Int × Int × Int × (List Int) × (List Int)))) :=
  bindF (f39 t_l n) fun r1 =>
  bif (!r1.1) then
    some ((0 : Int), (0 : Int), (0 : Int), (0 : Int), false, [], [], r1.2)
  else
    guardF (0 ≤ n ∧ n < (List.length r1.2 : Int)) <|
    bindF (f35 ((((((rd (Ty.z (.p (.int .i64) (.p (.int .i64) (.p (.int .i64) (.p (.int .i64) (.p (.sl (.int .i64)) (.sl (.int .i64)))))))) r1.2 n).2).2).2).2).1, (((((rd (Ty.z (.p (.int .i64) (.p (.int .i64) (.p (.int .i64) (.p (.int .i64) (.p (.sl (.int .i64)) (.sl (.int .i64)))))))) r1.2 n).2).2).2).2).2)) fun r2 =>
    some ((rd (Ty.z (.p (.int .i64) (.p (.int .i64) (.p (.int .i64) (.p (.int .i64) (.p (.sl (.int .i64)) (.sl (.int .i64)))))))) r1.2 n).1, ((rd (Ty.z (.p (.int .i64) (.p (.int .i64) (.p (.int .i64) (.p (.int .i64) (.p (.sl (.int .i64)) (.sl (.int .i64)))))))) r1.2 n).2).1, (((rd (Ty.z (.p (.int .i64) (.p (.int .i64) (.p (.int .i64) (.p (.int .i64) (.p (.sl (.int .i64)) (.sl (.int .i64)))))))) r1.2 n).2).2).1, ((((rd (Ty.z (.p (.int .i64) (.p (.int .i64) (.p (.int .i64) (.p (.int .i64) (.p (.sl (.int .i64)) (.sl (.int .i64)))))))) r1.2 n).2).2).2).1, true, r2.1, r2.2, r1.2)
def C37 : Con where
  X := (List (Int × Int × Int × Int × (List Int) × (List Int))) × Int
  Y := Int × Int × Int × Int × Bool × (List Int) × (List Int) × (List (Int × Int × Int × Int × (List Int) × (List Int)))
  e := 2
  args x := [.raw false [(.ptr 0 0)], .dat (.int .i64) x.2]
  hin x := [(0, .cells [(.osl 1)]), (1, .arr 74 (.p (.int .i64) (.p (.int .i64) (.p (.int .i64) (.p (.int .i64) (.p (.sl (.int .i64)) (.sl (.int .i64))))))) x.1)]
  F x := f37 x.1 x.2
  ret y := [.raw true [(.d (.int .i64) y.1), (.d (.int .i64) y.2.1), (.d (.int .i64) y.2.2.1), (.d (.int .i64) y.2.2.2.1), (.osl 2), (.osl 3)], .dat .bool y.2.2.2.2.1]
  hout y := [(0, .cells [(.osl 1)]), (1, .arr 74 (.p (.int .i64) (.p (.int .i64) (.p (.int .i64) (.p (.int .i64) (.p (.sl (.int .i64)) (.sl (.int .i64))))))) y.2.2.2.2.2.2.2), (2, .arr 3 (.int .i64) y.2.2.2.2.2.1), (3, .arr 33 (.int .i64) y.2.2.2.2.2.2.1)]
  nout := 4
theorem C37_vc (t_l : List (Int × Int × Int × Int × (List Int) × (List Int))) (n : Int) (y : Int × Int × Int × Int × Bool × (List Int) × (List Int) × (List (Int × Int × Int × Int × (List Int) × (List Int)))) (hF : f37 t_l n = some y) : vc Tryz.prog tab Tryz.f37.ntmps 2 (match Tryz.f37.body with | some c => c | none => .skip) (retK tab C37 Tryz.f37.results.toList y) (C37.shIn (t_l, n)).st := by
  unfold f37 at hF
  refine Or.inl ?_
  refine Or.inl ?_
  refine Or.inl ?_
  obtain ⟨r1, hr1, hF⟩ := bindE hF
  refine Or.inl (And.intro f39_in (callV0 (callI C39 (t_l, n) r1 [(0, some 0), (1, some 1)] false C39_holds hr1 rfl rfl ?_)))
  refine (And.intro rfl (And.intro (fun h => nomatch h) (And.intro rfl (And.intro rfl (And.intro (And.intro rfl trivial) (And.intro (And.intro rfl (And.intro rfl trivial)) ?_))))))
  refine condI hF (fun hF => ?_) (fun hF => ?_)
  · refine Or.inl ?_
    refine Or.inl ?_
    have hy := someE hF
    subst hy
    refine And.intro rfl (Exists.intro [] (Exists.intro [] (Exists.intro [] (Exists.intro [] (Exists.intro [(0, some 0), (1, some 1), (2, none), (3, none)] (And.intro rfl (And.intro rfl (And.intro (And.intro rfl trivial) (And.intro rfl (And.intro rfl (And.intro rfl (And.intro rfl trivial))))))))))))
  · refine Or.inl ?_
    refine guardI hF (fun hF => ?_)
    refine Or.inl ?_
    refine Or.inl ?_
    obtain ⟨r2, hr2, hF⟩ := bindE hF
    refine Or.inl (And.intro f35_in (callV0 (callI C35 ((((((rd (Ty.z (.p (.int .i64) (.p (.int .i64) (.p (.int .i64) (.p (.int .i64) (.p (.sl (.int .i64)) (.sl (.int .i64)))))))) r1.2 n).2).2).2).2).1, (((((rd (Ty.z (.p (.int .i64) (.p (.int .i64) (.p (.int .i64) (.p (.int .i64) (.p (.sl (.int .i64)) (.sl (.int .i64)))))))) r1.2 n).2).2).2).2).2) r2 [] false C35_holds hr2 rfl rfl ?_)))
    refine (And.intro rfl (And.intro rfl (And.intro (fun h => nomatch h) (And.intro rfl (And.intro rfl (And.intro trivial (And.intro trivial ?_)))))))
    refine Or.inl ?_
    refine Or.inl ?_
    refine Or.inl ?_
    have hy := someE hF
    subst hy
    refine And.intro rfl (Exists.intro [] (Exists.intro [] (Exists.intro [] (Exists.intro [] (Exists.intro [(0, some 0), (1, some 1), (2, some 6), (3, some 7)] (And.intro rfl (And.intro rfl (And.intro (And.intro rfl trivial) (And.intro rfl (And.intro rfl (And.intro rfl (And.intro rfl trivial))))))))))))
theorem C37_holds : C37.Holds Tryz.prog 37 := holds_of_vc tab_ok mixed (fn := Tryz.f37) (by kernel_rfl) rfl C37 (fun x y hF => C37_vc x.1 x.2 y hF)
theorem f37_in : ∃ fn, Tryz.prog.funcs[37]? = some fn ∧ fn.body.isSome = true ∧ (fn.name == "runtime.NumGoroutine") = false := ⟨Tryz.f37, by kernel_rfl, by kernel_rfl, by kernel_rfl⟩
end Go.Proofs
namespace Go.Proofs
open Go.AM
-- (*carousel/tape.Tape).Value
def f26 (t_l : List (Int × Int × Int × Int × (List Int) × (List Int))) (n : Int) : Option (Bool × (List Int) × (List Int) × (List (Int × Int × Int × Int × (List Int) × (List Int)))) :=
  bindF (f37 t_l n) fun r1 =>
  some (r1.2.2.2.2.1, r1.2.2.2.2.2.1, r1.2.2.2.2.2.2.1, r1.2.2.2.2.2.2.2)
def C26 : Con where
  X := (List (Int × Int × Int × Int × (List Int) × (List Int))) × Int
  Y := Bool × (List Int) × (List Int) × (List (Int × Int × Int × Int × (List Int) × (List Int)))
  e := 2
  args x := [.raw false [(.ptr 0 0)], .dat (.int .i64) x.2]
  hin x := [(0, .cells [(.osl 1)]), (1, .arr 74 (.p (.int .i64) (.p (.int .i64) (.p (.int .i64) (.p (.int .i64) (.p (.sl (.int .i64)) (.sl (.int .i64))))))) x.1)]
  F x := f26 x.1 x.2
  ret y := [.raw true [(.osl 2), (.osl 3)], .dat .bool y.1]
  hout y := [(0, .cells [(.osl 1)]), (1, .arr 74 (.p (.int .i64) (.p (.int .i64) (.p (.int .i64) (.p (.int .i64) (.p (.sl (.int .i64)) (.sl (.int .i64))))))) y.2.2.2), (2, .arr 3 (.int .i64) y.2.1), (3, .arr 33 (.int .i64) y.2.2.1)]
  nout := 4
theorem C26_vc (t_l : List (Int × Int × Int × Int × (List Int) × (List Int))) (n : Int) (y : Bool × (List Int) × (List Int) × (List (Int × Int × Int × Int × (List Int) × (List Int)))) (hF : f26 t_l n = some y) : vc Tryz.prog tab Tryz.f26.ntmps 2 (match Tryz.f26.body with | some c => c | none => .skip) (retK tab C26 Tryz.f26.results.toList y) (C26.shIn (t_l, n)).st := by
  unfold f26 at hF
  refine Or.inl ?_
  refine Or.inl ?_
  obtain ⟨r1, hr1, hF⟩ := bindE hF
  refine Or.inl (And.intro f37_in (callV0 (callI C37 (t_l, n) r1 [(0, some 0), (1, some 1)] false C37_holds hr1 rfl rfl ?_)))
  refine (And.intro rfl (And.intro (fun h => nomatch h) (And.intro rfl (And.intro rfl (And.intro (And.intro rfl trivial) (And.intro (And.intro rfl (And.intro rfl trivial)) ?_))))))
  refine Or.inl ?_
  refine Or.inl ?_
  refine Or.inl ?_
  have hy := someE hF
  subst hy
  refine And.intro rfl (Exists.intro [] (Exists.intro [] (Exists.intro [] (Exists.intro [] (Exists.intro [(0, some 0), (1, some 1), (2, some 5), (3, some 6)] (And.intro rfl (And.intro rfl (And.intro (And.intro rfl trivial) (And.intro rfl (And.intro rfl (And.intro rfl (And.intro rfl trivial))))))))))))
theorem C26_holds : C26.Holds Tryz.prog 26 := holds_of_vc tab_ok mixed (fn := Tryz.f26) (by kernel_rfl) rfl C26 (fun x y hF => C26_vc x.1 x.2 y hF)
theorem f26_in : ∃ fn, Tryz.prog.funcs[26]? = some fn ∧ fn.body.isSome = true ∧ (fn.name == "runtime.NumGoroutine") = false := ⟨Tryz.f26, by kernel_rfl, by kernel_rfl, by kernel_rfl⟩
end Go.Proofs
namespace Go.Proofs
open Go.AM
-- slices.Equal[[]int,int]
def f95_l1 (s1 : List Int) (s2 : List Int) (go : Int → Option (Sum Unit Unit)) (v13 : Int) : Option (Sum Unit Unit) :=
  bif (decide (v13 < (List.length s1 : Int))) then
    guardF (0 ≤ v13 ∧ v13 < (List.length s1 : Int)) <|
    guardF (0 ≤ v13 ∧ v13 < (List.length s2 : Int)) <|
    bif ((rd (0 : Int) s1 v13) != (rd (0 : Int) s2 v13)) then
      some (Sum.inl ())
    else
      go (IntKind.i64.wrap (v13 + (1 : Int)))
  else
    some (Sum.inr ())
def f95 (s1 : List Int) (s2 : List Int) : Option Bool :=
  bif ((List.length s1 : Int) != (List.length s2 : Int)) then
    some false
  else
    bindF (loopF (fun go x => f95_l1 s1 s2 go x) fuelN (0 : Int)) fun z1 =>
    sumF z1 (fun z1a =>
      some false) (fun z1b =>
      some true)
def C95 : Con where
  X := (List Int) × (List Int)
  Y := Bool
  e := 0
  args x := [.dat (.sl (.int .i64)) x.1, .dat (.sl (.int .i64)) x.2]
  hin x := []
  F x := f95 x.1 x.2
  ret y := [.dat .bool y]
  hout y := []
  nout := 0
theorem C95_vc (s1 : List Int) (s2 : List Int) (y : Bool) (hF : f95 s1 s2 = some y) : vc Tryz.prog tab Tryz.f95.ntmps 0 (match Tryz.f95.body with | some c => c | none => .skip) (retK tab C95 Tryz.f95.results.toList y) (C95.shIn (s1, s2)).st := by
  unfold f95 at hF
  refine Or.inl ?_
  refine Or.inl ?_
  refine Or.inl ?_
  refine condI hF (fun hF => ?_) (fun hF => ?_)
  · refine Or.inl ?_
    have hy := someE hF
    subst hy
    refine And.intro rfl (Exists.intro [] (Exists.intro [] (Exists.intro [] (Exists.intro [] (Exists.intro [] (And.intro rfl (And.intro rfl (And.intro trivial trivial))))))))
  · refine Or.inl ?_
    refine Or.inl ?_
    obtain ⟨z1, hz1, hF⟩ := bindE hF
    refine loopI Int (Sum Unit Unit) (fun x => ⟨[(0, .dat (.sl (.int .i64)) s1), (1, .dat (.sl (.int .i64)) s2), (12, .dat (.int .i64) (List.length s1 : Int)), (13, .dat (.int .i64) x)], [], 0⟩) (fun z => Sum.elim (fun za => [(1, ⟨[(4, .dat .bool false)], [], 0⟩)]) (fun zb => [(2, ⟨[], [], 0⟩)]) z) (loopF (fun go x => f95_l1 s1 s2 go x)) fuelN (0 : Int) z1 (And.intro hz1 (And.intro (Exists.intro [] (Exists.intro [] (Exists.intro [] (Exists.intro [] (Exists.intro [] (And.intro rfl (And.intro rfl (And.intro rfl (And.intro rfl (And.intro rfl (And.intro trivial trivial))))))))))) (And.intro (fun _ _ h => loopZ h) (And.intro (fun m => fun v13 z hF => ?_) ?_))))
    · have hF : f95_l1 s1 s2 (loopF (fun go x => f95_l1 s1 s2 go x) m) v13 = some z := hF
      unfold f95_l1 at hF
      refine Or.inl ?_
      refine Or.inl ?_
      refine condI hF (fun hF => ?_) (fun hF => ?_)
      · refine Or.inl ?_
        refine Or.inl ?_
        refine Or.inl ?_
        refine Exists.intro (.take 0 (.take 1 (.take 2 (.take 3 (.take 4 (.take 5 (.take 6 (.take 7 (.take 8 .done))))))))) (Exists.intro [] (Exists.intro [] (And.intro rfl ?_)))
        refine guardI hF (fun hF => ?_)
        refine guardI hF (fun hF => ?_)
        refine condI hF (fun hF => ?_) (fun hF => ?_)
        · refine Or.inl ?_
          have hz := someE hF
          subst hz
          refine Exists.intro [] (Exists.intro [] (Exists.intro [] (Exists.intro [] (Exists.intro [] (And.intro rfl (And.intro rfl (And.intro trivial trivial)))))))
        · refine Exists.intro (IntKind.i64.wrap (v13 + (1 : Int))) (And.intro hF (Exists.intro [] (Exists.intro [] (Exists.intro [] (Exists.intro [] (Exists.intro [] (And.intro rfl (And.intro rfl (And.intro rfl (And.intro rfl (And.intro rfl (And.intro trivial trivial))))))))))))
      · have hz := someE hF
        subst hz
        refine Exists.intro [] (Exists.intro [] (Exists.intro [] (Exists.intro [] (Exists.intro [] (And.intro rfl (And.intro trivial trivial))))))
    · rcases z1 with z1a | z1b
      · dsimp only [sumF] at hF
        refine And.intro ?_ trivial
        have hy := someE hF
        subst hy
        refine And.intro rfl (Exists.intro [] (Exists.intro [] (Exists.intro [] (Exists.intro [] (Exists.intro [] (And.intro rfl (And.intro rfl (And.intro trivial trivial))))))))
      · dsimp only [sumF] at hF
        refine And.intro ?_ trivial
        refine Or.inl ?_
        have hy := someE hF
        subst hy
        refine And.intro rfl (Exists.intro [] (Exists.intro [] (Exists.intro [] (Exists.intro [] (Exists.intro [] (And.intro rfl (And.intro rfl (And.intro trivial trivial))))))))
theorem C95_holds : C95.Holds Tryz.prog 95 := holds_of_vc tab_ok mixed (fn := Tryz.f95) (by kernel_rfl) rfl C95 (fun x y hF => C95_vc x.1 x.2 y hF)
theorem f95_in : ∃ fn, Tryz.prog.funcs[95]? = some fn ∧ fn.body.isSome = true ∧ (fn.name == "runtime.NumGoroutine") = false := ⟨Tryz.f95, by kernel_rfl, by kernel_rfl, by kernel_rfl⟩
end Go.Proofs
namespace Go.Proofs
open Go.AM
-- carousel/shape.Same
def f44 (a : List Int) (b : List Int) : Option Bool :=
  bindF (f95 a b) fun r1 =>
  some r1
def C44 : Con where
  X := (List Int) × (List Int)
  Y := Bool
  e := 0
  args x := [.dat (.sl (.int .i64)) x.1, .dat (.sl (.int .i64)) x.2]
  hin x := []
  F x := f44 x.1 x.2
  ret y := [.dat .bool y]
  hout y := []
  nout := 0
theorem C44_vc (a : List Int) (b : List Int) (y : Bool) (hF : f44 a b = some y) : vc Tryz.prog tab Tryz.f44.ntmps 0 (match Tryz.f44.body with | some c => c | none => .skip) (retK tab C44 Tryz.f44.results.toList y) (C44.shIn (a, b)).st := by
  unfold f44 at hF
  refine Or.inl ?_
  refine Or.inl ?_
  obtain ⟨r1, hr1, hF⟩ := bindE hF
  refine Or.inl (And.intro f95_in (callV0 (callI C95 (a, b) r1 [] false C95_holds hr1 rfl rfl ?_)))
  refine (And.intro rfl (And.intro rfl (And.intro (fun h => nomatch h) (And.intro rfl (And.intro rfl (And.intro trivial (And.intro trivial ?_)))))))
  have hy := someE hF
  subst hy
  refine And.intro rfl (Exists.intro [] (Exists.intro [] (Exists.intro [] (Exists.intro [] (Exists.intro [] (And.intro rfl (And.intro rfl (And.intro trivial trivial))))))))
theorem C44_holds : C44.Holds Tryz.prog 44 := holds_of_vc tab_ok mixed (fn := Tryz.f44) (by kernel_rfl) rfl C44 (fun x y hF => C44_vc x.1 x.2 y hF)
theorem f44_in : ∃ fn, Tryz.prog.funcs[44]? = some fn ∧ fn.body.isSome = true ∧ (fn.name == "runtime.NumGoroutine") = false := ⟨Tryz.f44, by kernel_rfl, by kernel_rfl, by kernel_rfl⟩
end Go.Proofs
namespace Go.Proofs
open Go.AM
-- carousel/tens.Fold
def f96_j3 (a : (List Int) × (List Int)) (d : List Int) : Option Bool :=
  bindF (f33 (a.1, a.2)) fun r9 =>
  bif (!r9) then
    some true
  else
    bindF (f76 d) fun r10 =>
    some (!r10)
def f96_j2 (a : (List Int) × (List Int)) (d : List Int) : Option (Sum Unit Unit) :=
  bindF (f96_j3 a d) fun z8 =>
  bif z8 then
    some (Sum.inr ())
  else
    some (Sum.inl ())
def f96_j6 (a : (List Int) × (List Int)) (r11 : Int × (List Int)) : Option Bool :=
  bif (r11.1 != (0 : Int)) then
    some true
  else
    bindF (f44 r11.2 a.1) fun r18 =>
    some (!r18)
def f96_j5 (a : (List Int) × (List Int)) (r11 : Int × (List Int)) : Option (Sum Unit Unit) :=
  bindF (f96_j6 a r11) fun z17 =>
  bif z17 then
    some (Sum.inr ())
  else
    some (Sum.inl ())
def f96_l7 (a : (List Int) × (List Int)) (r20 : List Int) (go : (Int × (List Int)) → Option (List Int)) (v51 : Int) (l4 : List Int) : Option (List Int) :=
  bif (decide (v51 < (List.length a.2 : Int))) then
    guardF (0 ≤ v51 ∧ v51 < (List.length a.2 : Int)) <|
    guardF (0 ≤ v51 ∧ v51 < (List.length r20 : Int)) <|
    guardF (0 ≤ v51 ∧ v51 < (List.length r20 : Int)) <|
    guardF (0 ≤ (rd (0 : Int) r20 v51) ∧ (rd (0 : Int) r20 v51) < (List.length l4 : Int)) <|
    bindF (f125 (rd (0 : Int) l4 (rd (0 : Int) r20 v51)) (rd (0 : Int) a.2 v51)) fun q11_15 =>
    guardF (0 ≤ (rd (0 : Int) r20 v51) ∧ (rd (0 : Int) r20 v51) < (List.length l4 : Int)) <|
    go ((IntKind.i64.wrap (v51 + (1 : Int))), (List.set l4 (Int.toNat (rd (0 : Int) r20 v51)) q11_15))
  else
    some l4
def f96 (a : (List Int) × (List Int)) (d : List Int) : Option (Int × (List Int) × (List Int)) :=
  bindF (f96_j2 a d) fun z5 =>
  sumF z5 (fun z5a =>
    bindF (f142 d a.1) fun r11 =>
    bindF (f96_j5 a r11) fun z15 =>
    sumF z15 (fun z15a =>
      bindF (f36 d (0 : Int)) fun r19 =>
      bindF (f143 d a.1) fun r20 =>
      bindF (loopF (fun go x => f96_l7 a r20 go x.1 x.2) fuelN ((0 : Int), r19.2.2)) fun z21 =>
      some ((0 : Int), r19.2.1, z21)) (fun z15b =>
      some ((4 : Int), [], []))) (fun z5b =>
    some ((1 : Int), [], []))
def C96 : Con where
  X := ((List Int) × (List Int)) × (List Int)
  Y := Int × (List Int) × (List Int)
  e := 0
  args x := [.dat (.p (.sl (.int .i64)) (.sl (.int .i64))) x.1, .dat (.sl (.int .i64)) x.2]
  hin x := []
  F x := f96 x.1 x.2
  ret y := [.raw true [(.osl 0), (.osl 1)], .dat (.int .i64) y.1]
  hout y := [(0, .arr 3 (.int .i64) y.2.1), (1, .arr 33 (.int .i64) y.2.2)]
  nout := 2
theorem C96_vc (a : (List Int) × (List Int)) (d : List Int) (y : Int × (List Int) × (List Int)) (hF : f96 a d = some y) : vc Tryz.prog tab Tryz.f96.ntmps 0 (match Tryz.f96.body with | some c => c | none => .skip) (retK tab C96 Tryz.f96.results.toList y) (C96.shIn (a, d)).st := by
  unfold f96 at hF
  refine Or.inl ?_
  obtain ⟨z5, hz5, hF⟩ := bindE hF
  refine Or.inr ⟨Sum.elim (fun z5a => [(0, ⟨[(1, .dat (.sl (.int .i64)) d), (2, .raw false [(.ptr 0 0)]), (4, .raw false [(.ptr 1 0)])], [(0, .cells [(.d (.sl (.int .i64)) a.1), (.d (.sl (.int .i64)) a.2)]), (1, .cells [(.c (.slice none 0 0)), (.c (.slice none 0 0))])], 2⟩)]) (fun z5b => [(1, ⟨[(4, .raw false [(.ptr 0 0)]), (5, .dat (.int .i64) (1 : Int))], [(0, .cells [(.c (.slice none 0 0)), (.c (.slice none 0 0))])], 1⟩)]) z5, ?_, ?_⟩
  · have hF := hz5
    clear hz5
    unfold f96_j2 at hF
    obtain ⟨z8, hz8, hF⟩ := bindE hF
    refine Or.inr ⟨[(0, ⟨[(1, .dat (.sl (.int .i64)) d), (2, .raw false [(.ptr 0 0)]), (4, .raw false [(.ptr 1 0)]), (20, .dat .bool z8)], [(0, .cells [(.d (.sl (.int .i64)) a.1), (.d (.sl (.int .i64)) a.2)]), (1, .cells [(.c (.slice none 0 0)), (.c (.slice none 0 0))])], 2⟩)], ?_, ?_⟩
    · have hF := hz8
      clear hz8
      unfold f96_j3 at hF
      obtain ⟨r9, hr9, hF⟩ := bindE hF
      refine Or.inl (And.intro f33_in (callV0 (callI C33 (a.1, a.2) r9 [] false C33_holds hr9 rfl rfl ?_)))
      refine (And.intro rfl (And.intro rfl (And.intro (fun h => nomatch h) (And.intro rfl (And.intro rfl (And.intro trivial (And.intro trivial ?_)))))))
      refine condN hF (fun hF => ?_) (fun hF => ?_)
      · refine gdYF ?_
        obtain ⟨r10, hr10, hF⟩ := bindE hF
        refine Or.inl (And.intro f76_in (callV0 (callI C76 d r10 [] false C76_holds hr10 rfl rfl ?_)))
        refine (And.intro rfl (And.intro (fun h => nomatch h) (And.intro rfl (And.intro rfl (And.intro trivial (And.intro trivial ?_))))))
        refine gdYF ?_
        refine condF ?_
        have hz := someE hF
        subst hz
        refine Exists.intro [] (Exists.intro [] (Exists.intro [] (Exists.intro [] (Exists.intro [(0, some 0), (1, some 1)] (And.intro rfl (And.intro rfl (And.intro rfl (And.intro (And.intro rfl (And.intro rfl trivial)) (And.intro rfl (And.intro rfl trivial))))))))))
      · refine gdNF ?_
        refine gdNF ?_
        refine condT ?_
        have hz := someE hF
        subst hz
        refine Exists.intro [] (Exists.intro [] (Exists.intro [] (Exists.intro [] (Exists.intro [(0, some 0), (1, some 1)] (And.intro rfl (And.intro rfl (And.intro rfl (And.intro (And.intro rfl (And.intro rfl trivial)) (And.intro rfl (And.intro rfl trivial))))))))))
    · refine And.intro ?_ trivial
      refine condI hF (fun hF => ?_) (fun hF => ?_)
      · refine Or.inl ?_
        refine Or.inl ?_
        have hz := someE hF
        subst hz
        refine Exists.intro [] (Exists.intro [] (Exists.intro [] (Exists.intro [] (Exists.intro [(0, some 1)] (And.intro rfl (And.intro rfl (And.intro (And.intro rfl trivial) (And.intro rfl trivial))))))))
      · have hz := someE hF
        subst hz
        refine Exists.intro [] (Exists.intro [] (Exists.intro [] (Exists.intro [] (Exists.intro [(0, some 0), (1, some 1)] (And.intro rfl (And.intro rfl (And.intro (And.intro rfl (And.intro rfl trivial)) (And.intro rfl (And.intro rfl trivial)))))))))
  · rcases z5 with z5a | z5b
    · dsimp only [sumF] at hF
      refine And.intro ?_ trivial
      refine Or.inl ?_
      obtain ⟨r11, hr11, hF⟩ := bindE hF
      refine Or.inl (And.intro f142_in (callV0 (callI C142 (d, a.1) r11 [] false C142_holds hr11 rfl rfl ?_)))
      refine (And.intro rfl (And.intro rfl (And.intro (fun h => nomatch h) (And.intro rfl (And.intro rfl (And.intro trivial (And.intro trivial ?_)))))))
      obtain ⟨z15, hz15, hF⟩ := bindE hF
      refine Or.inr ⟨Sum.elim (fun z15a => [(0, ⟨[(1, .dat (.sl (.int .i64)) d), (2, .raw false [(.ptr 0 0)]), (4, .raw false [(.ptr 1 0)])], [(0, .cells [(.d (.sl (.int .i64)) a.1), (.d (.sl (.int .i64)) a.2)]), (1, .cells [(.c (.slice none 0 0)), (.c (.slice none 0 0))])], 2⟩)]) (fun z15b => [(1, ⟨[(4, .raw false [(.ptr 0 0)]), (5, .dat (.int .i64) (4 : Int))], [(0, .cells [(.c (.slice none 0 0)), (.c (.slice none 0 0))])], 1⟩)]) z15, ?_, ?_⟩
      · have hF := hz15
        clear hz15
        unfold f96_j5 at hF
        obtain ⟨z17, hz17, hF⟩ := bindE hF
        refine Or.inr ⟨[(0, ⟨[(1, .dat (.sl (.int .i64)) d), (2, .raw false [(.ptr 0 0)]), (4, .raw false [(.ptr 1 0)]), (37, .dat .bool z17)], [(0, .cells [(.d (.sl (.int .i64)) a.1), (.d (.sl (.int .i64)) a.2)]), (1, .cells [(.c (.slice none 0 0)), (.c (.slice none 0 0))])], 2⟩)], ?_, ?_⟩
        · have hF := hz17
          clear hz17
          unfold f96_j6 at hF
          refine condN hF (fun hF => ?_) (fun hF => ?_)
          · refine gdYF ?_
            refine gdYF ?_
            refine gdYF ?_
            obtain ⟨r18, hr18, hF⟩ := bindE hF
            refine Or.inl (And.intro f44_in (callV0 (callI C44 (r11.2, a.1) r18 [] true C44_holds hr18 rfl rfl ?_)))
            refine (And.intro rfl (And.intro rfl (And.intro (fun _ => rfl) (And.intro rfl (And.intro rfl (And.intro trivial (And.intro trivial ?_)))))))
            refine gdYF ?_
            refine condF ?_
            have hz := someE hF
            subst hz
            refine Exists.intro [] (Exists.intro [] (Exists.intro [] (Exists.intro [] (Exists.intro [(0, some 0), (1, some 1)] (And.intro rfl (And.intro rfl (And.intro rfl (And.intro (And.intro rfl (And.intro rfl trivial)) (And.intro rfl (And.intro rfl trivial))))))))))
          · refine gdNF ?_
            refine gdNF ?_
            refine gdNF ?_
            refine gdNF ?_
            refine condT ?_
            have hz := someE hF
            subst hz
            refine Exists.intro [] (Exists.intro [] (Exists.intro [] (Exists.intro [] (Exists.intro [(0, some 0), (1, some 1)] (And.intro rfl (And.intro rfl (And.intro rfl (And.intro (And.intro rfl (And.intro rfl trivial)) (And.intro rfl (And.intro rfl trivial))))))))))
        · refine And.intro ?_ trivial
          refine condI hF (fun hF => ?_) (fun hF => ?_)
          · refine Or.inl ?_
            refine Or.inl ?_
            have hz := someE hF
            subst hz
            refine Exists.intro [] (Exists.intro [] (Exists.intro [] (Exists.intro [] (Exists.intro [(0, some 1)] (And.intro rfl (And.intro rfl (And.intro (And.intro rfl trivial) (And.intro rfl trivial))))))))
          · have hz := someE hF
            subst hz
            refine Exists.intro [] (Exists.intro [] (Exists.intro [] (Exists.intro [] (Exists.intro [(0, some 0), (1, some 1)] (And.intro rfl (And.intro rfl (And.intro (And.intro rfl (And.intro rfl trivial)) (And.intro rfl (And.intro rfl trivial)))))))))
      · rcases z15 with z15a | z15b
        · dsimp only [sumF] at hF
          refine And.intro ?_ trivial
          refine Or.inl ?_
          obtain ⟨r19, hr19, hF⟩ := bindE hF
          refine Or.inl (And.intro f36_in (callV0 (callI C36 (d, (0 : Int)) r19 [] false C36_holds hr19 rfl rfl ?_)))
          refine (And.intro rfl (And.intro rfl (And.intro (fun h => nomatch h) (And.intro rfl (And.intro rfl (And.intro trivial (And.intro trivial ?_)))))))
          refine Or.inl ?_
          refine Or.inl ?_
          obtain ⟨r20, hr20, hF⟩ := bindE hF
          refine Or.inl (And.intro f143_in (callV0 (callI C143 (d, a.1) r20 [] false C143_holds hr20 rfl rfl ?_)))
          refine (And.intro rfl (And.intro rfl (And.intro (fun h => nomatch h) (And.intro rfl (And.intro rfl (And.intro trivial (And.intro trivial ?_)))))))
          refine Or.inl ?_
          refine Or.inl ?_
          obtain ⟨z21, hz21, hF⟩ := bindE hF
          refine loopI (Int × (List Int)) (List Int) (fun x => ⟨[(4, .raw false [(.ptr 0 0)]), (8, .raw false [(.ptr 1 0)]), (10, .raw false [(.osl 2)]), (49, .dat (.sl (.int .i64)) a.2), (50, .dat (.int .i64) (List.length a.2 : Int)), (51, .dat (.int .i64) x.1)], [(0, .cells [(.c (.slice none 0 0)), (.c (.slice none 0 0))]), (1, .cells [(.osl 3), (.osl 4)]), (2, .arr 3 (.int .i64) r20), (3, .arr 3 (.int .i64) r19.2.1), (4, .arr 33 (.int .i64) x.2)], 5⟩) (fun z => [(2, ⟨[(4, .raw false [(.ptr 0 0)]), (8, .raw false [(.ptr 1 0)])], [(0, .cells [(.c (.slice none 0 0)), (.c (.slice none 0 0))]), (1, .cells [(.osl 2), (.osl 3)]), (2, .arr 3 (.int .i64) r19.2.1), (3, .arr 33 (.int .i64) z)], 4⟩)]) (loopF (fun go x => f96_l7 a r20 go x.1 x.2)) fuelN ((0 : Int), r19.2.2) z21 (And.intro hz21 (And.intro (Exists.intro [] (Exists.intro [] (Exists.intro [] (Exists.intro [] (Exists.intro [(0, some 1), (1, some 4), (2, some 5), (3, some 2), (4, some 3)] (And.intro rfl (And.intro rfl (And.intro rfl (And.intro rfl (And.intro (And.intro rfl (And.intro rfl (And.intro rfl trivial))) (And.intro rfl (And.intro rfl (And.intro rfl (And.intro rfl (And.intro rfl trivial))))))))))))))) (And.intro (fun _ _ h => loopZ h) (And.intro (fun m => curI (fun v51 => fun l4 z hF => ?_)) ?_))))
          · have hF : f96_l7 a r20 (loopF (fun go x => f96_l7 a r20 go x.1 x.2) m) v51 l4 = some z := hF
            unfold f96_l7 at hF
            refine Or.inl ?_
            refine Or.inl ?_
            refine condI hF (fun hF => ?_) (fun hF => ?_)
            · refine Or.inl ?_
              refine Or.inl ?_
              refine guardI hF (fun hF => ?_)
              refine Exists.intro (.take 0 (.take 1 (.take 2 (.take 3 (.take 4 (.take 5 (.take 6 (.take 7 (.take 8 (.take 9 (.take 10 (.take 11 (.take 12 (.take 13 (.take 14 (.alt 15 (.take 16 (.alt 17 .done .done)) .done)))))))))))))))) (Exists.intro [(17, [4])] (Exists.intro [] (And.intro rfl ?_)))
              refine guardI hF (fun hF => ?_)
              refine guardI hF (fun hF => ?_)
              refine guardI hF (fun hF => ?_)
              refine And.intro trivial ?_
              obtain ⟨q11_15, hq11_15, hF⟩ := bindE hF
              refine Or.inl (And.intro f125_in (callV0 (callI C125 ((rd (0 : Int) l4 (rd (0 : Int) r20 v51)), (rd (0 : Int) a.2 v51)) q11_15 [] false C125_holds hq11_15 rfl rfl ?_)))
              refine (And.intro rfl (And.intro rfl (And.intro (fun h => nomatch h) (And.intro rfl (And.intro rfl (And.intro trivial (And.intro trivial ?_)))))))
              refine guardI hF (fun hF => ?_)
              refine And.intro trivial ?_
              refine Or.inl ?_
              refine Exists.intro ((IntKind.i64.wrap (v51 + (1 : Int))), (List.set l4 (Int.toNat (rd (0 : Int) r20 v51)) q11_15)) (And.intro hF (Exists.intro [] (Exists.intro [] (Exists.intro [] (Exists.intro [] (Exists.intro [(0, some 0), (1, some 1), (2, some 2), (3, some 3), (4, some 4)] (And.intro rfl (And.intro rfl (And.intro rfl (And.intro rfl (And.intro (And.intro rfl (And.intro rfl (And.intro rfl trivial))) (And.intro rfl (And.intro rfl (And.intro rfl (And.intro rfl (And.intro rfl trivial))))))))))))))))
            · have hz := someE hF
              subst hz
              refine Exists.intro [] (Exists.intro [] (Exists.intro [] (Exists.intro [] (Exists.intro [(0, some 0), (1, some 1), (2, some 3), (3, some 4)] (And.intro rfl (And.intro (And.intro rfl (And.intro rfl trivial)) (And.intro rfl (And.intro rfl (And.intro rfl (And.intro rfl trivial))))))))))
          · refine And.intro ?_ trivial
            refine Or.inl ?_
            refine Or.inl ?_
            have hy := someE hF
            subst hy
            refine And.intro rfl (Exists.intro [] (Exists.intro [] (Exists.intro [] (Exists.intro [] (Exists.intro [(0, some 2), (1, some 3)] (And.intro rfl (And.intro rfl (And.intro (And.intro rfl trivial) (And.intro rfl (And.intro rfl trivial))))))))))
        · dsimp only [sumF] at hF
          refine And.intro ?_ trivial
          have hy := someE hF
          subst hy
          refine And.intro rfl (Exists.intro [] (Exists.intro [] (Exists.intro [] (Exists.intro [] (Exists.intro [(0, none), (1, none)] (And.intro rfl (And.intro rfl (And.intro (And.intro rfl trivial) (And.intro rfl (And.intro rfl trivial))))))))))
    · dsimp only [sumF] at hF
      refine And.intro ?_ trivial
      have hy := someE hF
      subst hy
      refine And.intro rfl (Exists.intro [] (Exists.intro [] (Exists.intro [] (Exists.intro [] (Exists.intro [(0, none), (1, none)] (And.intro rfl (And.intro rfl (And.intro (And.intro rfl trivial) (And.intro rfl (And.intro rfl trivial))))))))))
theorem C96_holds : C96.Holds Tryz.prog 96 := holds_of_vc tab_ok mixed (fn := Tryz.f96) (by kernel_rfl) rfl C96 (fun x y hF => C96_vc x.1 x.2 y hF)
theorem f96_in : ∃ fn, Tryz.prog.funcs[96]? = some fn ∧ fn.body.isSome = true ∧ (fn.name == "runtime.NumGoroutine") = false := ⟨Tryz.f96, by kernel_rfl, by kernel_rfl, by kernel_rfl⟩
end Go.Proofs
namespace Go.Proofs
open Go.AM
-- carousel/back.folded
def f97 (t : (List Int) × (List Int)) (e : Int) (d : List Int) : Option (Int × (List Int) × (List Int)) :=
  bif (e != (0 : Int)) then
    some (e, [], [])
  else
    bindF (f96 (t.1, t.2) d) fun r1 =>
    some (r1.1, r1.2.1, r1.2.2)
def C97 : Con where
  X := ((List Int) × (List Int)) × Int × (List Int)
  Y := Int × (List Int) × (List Int)
  e := 0
  args x := [.dat (.p (.sl (.int .i64)) (.sl (.int .i64))) x.1, .dat (.int .i64) x.2.1, .dat (.sl (.int .i64)) x.2.2]
  hin x := []
  F x := f97 x.1 x.2.1 x.2.2
  ret y := [.raw true [(.osl 0), (.osl 1)], .dat (.int .i64) y.1]
  hout y := [(0, .arr 3 (.int .i64) y.2.1), (1, .arr 33 (.int .i64) y.2.2)]
  nout := 2
theorem C97_vc (t : (List Int) × (List Int)) (e : Int) (d : List Int) (y : Int × (List Int) × (List Int)) (hF : f97 t e d = some y) : vc Tryz.prog tab Tryz.f97.ntmps 0 (match Tryz.f97.body with | some c => c | none => .skip) (retK tab C97 Tryz.f97.results.toList y) (C97.shIn (t, e, d)).st := by
  unfold f97 at hF
  refine Or.inl ?_
  refine Or.inl ?_
  refine Or.inl ?_
  refine condI hF (fun hF => ?_) (fun hF => ?_)
  · refine Or.inl ?_
    refine Or.inl ?_
    have hy := someE hF
    subst hy
    refine And.intro rfl (Exists.intro [] (Exists.intro [] (Exists.intro [] (Exists.intro [] (Exists.intro [(0, none), (1, none)] (And.intro rfl (And.intro rfl (And.intro (And.intro rfl trivial) (And.intro rfl (And.intro rfl trivial))))))))))
  · refine Or.inl ?_
    obtain ⟨r1, hr1, hF⟩ := bindE hF
    refine Or.inl (And.intro f96_in (callV0 (callI C96 ((t.1, t.2), d) r1 [] false C96_holds hr1 rfl rfl ?_)))
    refine (And.intro rfl (And.intro rfl (And.intro rfl (And.intro (fun h => nomatch h) (And.intro rfl (And.intro rfl (And.intro trivial (And.intro trivial ?_))))))))
    refine Or.inl ?_
    have hy := someE hF
    subst hy
    refine And.intro rfl (Exists.intro [] (Exists.intro [] (Exists.intro [] (Exists.intro [] (Exists.intro [(0, some 2), (1, some 3)] (And.intro rfl (And.intro rfl (And.intro (And.intro rfl trivial) (And.intro rfl (And.intro rfl trivial))))))))))
theorem C97_holds : C97.Holds Tryz.prog 97 := holds_of_vc tab_ok mixed (fn := Tryz.f97) (by kernel_rfl) rfl C97 (fun x y hF => C97_vc x.1 x.2.1 x.2.2 y hF)
theorem f97_in : ∃ fn, Tryz.prog.funcs[97]? = some fn ∧ fn.body.isSome = true ∧ (fn.name == "runtime.NumGoroutine") = false := ⟨Tryz.f97, by kernel_rfl, by kernel_rfl, by kernel_rfl⟩
end Go.Proofs
namespace Go.Proofs
open Go.AM
-- carousel/back.product
def f98 (a : (List Int) × (List Int)) (b : (List Int) × (List Int)) (first : Bool) : Option (Int × (List Int) × (List Int)) :=
  bif first then
    bindF (f87 (a.1, a.2)) fun r1 =>
    bif (r1.1 != (0 : Int)) then
      some (r1.1, [], [])
    else
      bindF (f84 (r1.2.1, r1.2.2) (b.1, b.2)) fun r2 =>
      some (r2.1, r2.2.1, r2.2.2)
  else
    bindF (f87 (b.1, b.2)) fun r3 =>
    bif (r3.1 != (0 : Int)) then
      some (r3.1, [], [])
    else
      bindF (f84 (a.1, a.2) (r3.2.1, r3.2.2)) fun r4 =>
      some (r4.1, r4.2.1, r4.2.2)
def C98 : Con where
  X := ((List Int) × (List Int)) × ((List Int) × (List Int)) × Bool
  Y := Int × (List Int) × (List Int)
  e := 0
  args x := [.dat (.p (.sl (.int .i64)) (.sl (.int .i64))) x.1, .dat (.p (.sl (.int .i64)) (.sl (.int .i64))) x.2.1, .dat .bool x.2.2]
  hin x := []
  F x := f98 x.1 x.2.1 x.2.2
  ret y := [.raw true [(.osl 0), (.osl 1)], .dat (.int .i64) y.1]
  hout y := [(0, .arr 3 (.int .i64) y.2.1), (1, .arr 33 (.int .i64) y.2.2)]
  nout := 2
theorem C98_vc (a : (List Int) × (List Int)) (b : (List Int) × (List Int)) (first : Bool) (y : Int × (List Int) × (List Int)) (hF : f98 a b first = some y) : vc Tryz.prog tab Tryz.f98.ntmps 0 (match Tryz.f98.body with | some c => c | none => .skip) (retK tab C98 Tryz.f98.results.toList y) (C98.shIn (a, b, first)).st := by
  unfold f98 at hF
  refine Or.inl ?_
  refine Or.inl ?_
  refine Or.inl ?_
  refine condI hF (fun hF => ?_) (fun hF => ?_)
  · refine Or.inl ?_
    obtain ⟨r1, hr1, hF⟩ := bindE hF
    refine Or.inl (And.intro f87_in (callV0 (callI C87 (a.1, a.2) r1 [] false C87_holds hr1 rfl rfl ?_)))
    refine (And.intro rfl (And.intro rfl (And.intro (fun h => nomatch h) (And.intro rfl (And.intro rfl (And.intro trivial (And.intro trivial ?_)))))))
    refine Or.inl ?_
    refine Or.inl ?_
    refine Or.inl ?_
    refine condI hF (fun hF => ?_) (fun hF => ?_)
    · refine Or.inl ?_
      refine Or.inl ?_
      have hy := someE hF
      subst hy
      refine And.intro rfl (Exists.intro [] (Exists.intro [] (Exists.intro [] (Exists.intro [] (Exists.intro [(0, none), (1, none)] (And.intro rfl (And.intro rfl (And.intro (And.intro rfl trivial) (And.intro rfl (And.intro rfl trivial))))))))))
    · refine Or.inl ?_
      obtain ⟨r2, hr2, hF⟩ := bindE hF
      refine Or.inl (And.intro f84_in (callV0 (callI C84 ((r1.2.1, r1.2.2), (b.1, b.2)) r2 [] true C84_holds hr2 rfl rfl ?_)))
      refine (And.intro rfl (And.intro rfl (And.intro rfl (And.intro rfl (And.intro (fun _ => rfl) (And.intro rfl (And.intro rfl (And.intro trivial (And.intro trivial ?_)))))))))
      refine Or.inl ?_
      have hy := someE hF
      subst hy
      refine And.intro rfl (Exists.intro [] (Exists.intro [] (Exists.intro [] (Exists.intro [] (Exists.intro [(0, some 6), (1, some 7)] (And.intro rfl (And.intro rfl (And.intro (And.intro rfl trivial) (And.intro rfl (And.intro rfl trivial))))))))))
  · refine Or.inl ?_
    obtain ⟨r3, hr3, hF⟩ := bindE hF
    refine Or.inl (And.intro f87_in (callV0 (callI C87 (b.1, b.2) r3 [] false C87_holds hr3 rfl rfl ?_)))
    refine (And.intro rfl (And.intro rfl (And.intro (fun h => nomatch h) (And.intro rfl (And.intro rfl (And.intro trivial (And.intro trivial ?_)))))))
    refine Or.inl ?_
    refine Or.inl ?_
    refine Or.inl ?_
    refine condI hF (fun hF => ?_) (fun hF => ?_)
    · refine Or.inl ?_
      refine Or.inl ?_
      have hy := someE hF
      subst hy
      refine And.intro rfl (Exists.intro [] (Exists.intro [] (Exists.intro [] (Exists.intro [] (Exists.intro [(0, none), (1, none)] (And.intro rfl (And.intro rfl (And.intro (And.intro rfl trivial) (And.intro rfl (And.intro rfl trivial))))))))))
    · refine Or.inl ?_
      obtain ⟨r4, hr4, hF⟩ := bindE hF
      refine Or.inl (And.intro f84_in (callV0 (callI C84 ((a.1, a.2), (r3.2.1, r3.2.2)) r4 [] true C84_holds hr4 rfl rfl ?_)))
      refine (And.intro rfl (And.intro rfl (And.intro rfl (And.intro rfl (And.intro (fun _ => rfl) (And.intro rfl (And.intro rfl (And.intro trivial (And.intro trivial ?_)))))))))
      refine Or.inl ?_
      have hy := someE hF
      subst hy
      refine And.intro rfl (Exists.intro [] (Exists.intro [] (Exists.intro [] (Exists.intro [] (Exists.intro [(0, some 6), (1, some 7)] (And.intro rfl (And.intro rfl (And.intro (And.intro rfl trivial) (And.intro rfl (And.intro rfl trivial))))))))))
theorem C98_holds : C98.Holds Tryz.prog 98 := holds_of_vc tab_ok mixed (fn := Tryz.f98) (by kernel_rfl) rfl C98 (fun x y hF => C98_vc x.1 x.2.1 x.2.2 y hF)
theorem f98_in : ∃ fn, Tryz.prog.funcs[98]? = some fn ∧ fn.body.isSome = true ∧ (fn.name == "runtime.NumGoroutine") = false := ⟨Tryz.f98, by kernel_rfl, by kernel_rfl, by kernel_rfl⟩
end Go.Proofs
