import Derived.Test.YtgkmdgdkmgkelaaGreatGradKnownF4
set_option linter.unusedVariables false
set_option maxRecDepth 100000
set_option maxHeartbeats 8000000
namespace Go.Proofs
open Go.AM
-- carousel/act.Of
def f198 (kind : Int) (x_ : Int) : Option (Int × Int) :=
  bif (kind == (1 : Int)) then
    some ((if (0 : Int) > x_ then (0 : Int) else x_), (0 : Int))
  else
    bif (kind == (2 : Int)) then
      bif (decide (x_ > (0 : Int))) then
        some (x_, (0 : Int))
      else
        bindF (f219 (8 : Int)) fun r1 =>
        bindF (f128 x_ r1) fun r2 =>
        some (r2, (0 : Int))
    else
      bif (kind == (3 : Int)) then
        bindF (f220 x_ (-4294967296 : Int) (4294967296 : Int)) fun r3 =>
        some (r3, (0 : Int))
      else
        bif (kind == (4 : Int)) then
          bif (decide (x_ < (0 : Int))) then
            bindF (f221 x_) fun r4 =>
            some (r4, (0 : Int))
          else
            some (x_, (0 : Int))
        else
          bif (kind == (5 : Int)) then
            bindF (f219 (2 : Int)) fun r5 =>
            bindF (f128 x_ r5) fun r6 =>
            bindF (f65 r6 (2147483648 : Int)) fun r7 =>
            bindF (f220 r7 (0 : Int) (4294967296 : Int)) fun r8 =>
            some (r8, (0 : Int))
          else
            some ((0 : Int), (1 : Int))
def C198 : Con where
  X := Int × Int
  Y := Int × Int
  e := 0
  args x := [.dat (.int .i64) x.1, .dat (.int .i64) x.2]
  hin x := []
  F x := f198 x.1 x.2
  ret y := [.dat (.int .i64) y.1, .dat (.int .i64) y.2]
  hout y := []
  nout := 0
theorem C198_vc (kind : Int) (x_ : Int) (y : Int × Int) (hF : f198 kind x_ = some y) : vc Tryz.prog tab Tryz.f198.ntmps 0 (match Tryz.f198.body with | some c => c | none => .skip) (retK tab C198 Tryz.f198.results.toList y) (C198.shIn (kind, x_)).st := by
  unfold f198 at hF
  refine Or.inl ?_
  refine Or.inl ?_
  refine Or.inl ?_
  refine Or.inl ?_
  refine condI hF (fun hF => ?_) (fun hF => ?_)
  · refine Or.inl ?_
    have hy := someE hF
    subst hy
    refine And.intro rfl (Exists.intro [] (Exists.intro [] (Exists.intro [] (Exists.intro [] (Exists.intro [] (And.intro rfl (And.intro rfl (And.intro rfl (And.intro trivial trivial)))))))))
  · refine Or.inl ?_
    refine condI hF (fun hF => ?_) (fun hF => ?_)
    · refine Or.inl ?_
      refine Or.inl ?_
      refine condI hF (fun hF => ?_) (fun hF => ?_)
      · refine Or.inl ?_
        have hy := someE hF
        subst hy
        refine And.intro rfl (Exists.intro [] (Exists.intro [] (Exists.intro [] (Exists.intro [] (Exists.intro [] (And.intro rfl (And.intro rfl (And.intro rfl (And.intro trivial trivial)))))))))
      · refine Or.inl ?_
        obtain ⟨r1, hr1, hF⟩ := bindE hF
        refine Or.inl (And.intro f219_in (callV0 (callI C219 (8 : Int) r1 [] false C219_holds hr1 rfl rfl ?_)))
        refine (And.intro rfl (And.intro (fun h => nomatch h) (And.intro rfl (And.intro rfl (And.intro trivial (And.intro trivial ?_))))))
        obtain ⟨r2, hr2, hF⟩ := bindE hF
        refine Or.inl (And.intro f128_in (callV0 (callI C128 (x_, r1) r2 [] false C128_holds hr2 rfl rfl ?_)))
        refine (And.intro rfl (And.intro rfl (And.intro (fun h => nomatch h) (And.intro rfl (And.intro rfl (And.intro trivial (And.intro trivial ?_)))))))
        have hy := someE hF
        subst hy
        refine And.intro rfl (Exists.intro [] (Exists.intro [] (Exists.intro [] (Exists.intro [] (Exists.intro [] (And.intro rfl (And.intro rfl (And.intro rfl (And.intro trivial trivial)))))))))
    · refine Or.inl ?_
      refine condI hF (fun hF => ?_) (fun hF => ?_)
      · refine Or.inl ?_
        obtain ⟨r3, hr3, hF⟩ := bindE hF
        have hr3 : C220.F (x_, (-4294967296 : Int), (4294967296 : Int)) = some r3 := hr3
        refine Or.inl (And.intro f220_in (callV0 (callI C220 _ r3 [] false C220_holds hr3 rfl rfl ?_)))
        refine (And.intro rfl (And.intro rfl (And.intro rfl (And.intro (fun h => nomatch h) (And.intro rfl (And.intro rfl (And.intro trivial (And.intro trivial ?_))))))))
        have hy := someE hF
        subst hy
        refine And.intro rfl (Exists.intro [] (Exists.intro [] (Exists.intro [] (Exists.intro [] (Exists.intro [] (And.intro rfl (And.intro rfl (And.intro rfl (And.intro trivial trivial)))))))))
      · refine Or.inl ?_
        refine condI hF (fun hF => ?_) (fun hF => ?_)
        · refine Or.inl ?_
          refine Or.inl ?_
          refine condI hF (fun hF => ?_) (fun hF => ?_)
          · refine Or.inl ?_
            obtain ⟨r4, hr4, hF⟩ := bindE hF
            refine Or.inl (And.intro f221_in (callV0 (callI C221 x_ r4 [] false C221_holds hr4 rfl rfl ?_)))
            refine (And.intro rfl (And.intro (fun h => nomatch h) (And.intro rfl (And.intro rfl (And.intro trivial (And.intro trivial ?_))))))
            have hy := someE hF
            subst hy
            refine And.intro rfl (Exists.intro [] (Exists.intro [] (Exists.intro [] (Exists.intro [] (Exists.intro [] (And.intro rfl (And.intro rfl (And.intro rfl (And.intro trivial trivial)))))))))
          · refine Or.inl ?_
            have hy := someE hF
            subst hy
            refine And.intro rfl (Exists.intro [] (Exists.intro [] (Exists.intro [] (Exists.intro [] (Exists.intro [] (And.intro rfl (And.intro rfl (And.intro rfl (And.intro trivial trivial)))))))))
        · refine Or.inl ?_
          refine condI hF (fun hF => ?_) (fun hF => ?_)
          · refine Or.inl ?_
            obtain ⟨r5, hr5, hF⟩ := bindE hF
            refine Or.inl (And.intro f219_in (callV0 (callI C219 (2 : Int) r5 [] false C219_holds hr5 rfl rfl ?_)))
            refine (And.intro rfl (And.intro (fun h => nomatch h) (And.intro rfl (And.intro rfl (And.intro trivial (And.intro trivial ?_))))))
            obtain ⟨r6, hr6, hF⟩ := bindE hF
            refine Or.inl (And.intro f128_in (callV0 (callI C128 (x_, r5) r6 [] false C128_holds hr6 rfl rfl ?_)))
            refine (And.intro rfl (And.intro rfl (And.intro (fun h => nomatch h) (And.intro rfl (And.intro rfl (And.intro trivial (And.intro trivial ?_)))))))
            obtain ⟨r7, hr7, hF⟩ := bindE hF
            refine Or.inl (And.intro f65_in (callV0 (callI C65 (r6, (2147483648 : Int)) r7 [] false C65_holds hr7 rfl rfl ?_)))
            refine (And.intro rfl (And.intro rfl (And.intro (fun h => nomatch h) (And.intro rfl (And.intro rfl (And.intro trivial (And.intro trivial ?_)))))))
            obtain ⟨r8, hr8, hF⟩ := bindE hF
            refine Or.inl (And.intro f220_in (callV0 (callI C220 (r7, (0 : Int), (4294967296 : Int)) r8 [] false C220_holds hr8 rfl rfl ?_)))
            refine (And.intro rfl (And.intro rfl (And.intro rfl (And.intro (fun h => nomatch h) (And.intro rfl (And.intro rfl (And.intro trivial (And.intro trivial ?_))))))))
            have hy := someE hF
            subst hy
            refine And.intro rfl (Exists.intro [] (Exists.intro [] (Exists.intro [] (Exists.intro [] (Exists.intro [] (And.intro rfl (And.intro rfl (And.intro rfl (And.intro trivial trivial)))))))))
          · refine Or.inl ?_
            have hy := someE hF
            subst hy
            refine And.intro rfl (Exists.intro [] (Exists.intro [] (Exists.intro [] (Exists.intro [] (Exists.intro [] (And.intro rfl (And.intro rfl (And.intro rfl (And.intro trivial trivial)))))))))
theorem C198_holds : C198.Holds Tryz.prog 198 := holds_of_vc tab_ok mixed (fn := Tryz.f198) (by kernel_rfl) rfl C198 (fun x y hF => C198_vc x.1 x.2 y hF)
theorem f198_in : ∃ fn, Tryz.prog.funcs[198]? = some fn ∧ fn.body.isSome = true ∧ (fn.name == "runtime.NumGoroutine") = false := ⟨Tryz.f198, by kernel_rfl, by kernel_rfl, by kernel_rfl⟩
end Go.Proofs
namespace Go.Proofs
open Go.AM
-- carousel/act.All
def f179_j3 (kind : Int) (t : (List Int) × (List Int)) : Option Bool :=
  bindF (f148 kind) fun r9 =>
  bif (!r9) then
    some true
  else
    bindF (f86 (t.1, t.2)) fun r10 =>
    some (!r10)
def f179_j2 (kind : Int) (t : (List Int) × (List Int)) : Option (Sum Unit Unit) :=
  bindF (f179_j3 kind t) fun z8 =>
  bif z8 then
    some (Sum.inr ())
  else
    some (Sum.inl ())
def f179_l4 (kind : Int) (t : (List Int) × (List Int)) (go : (Int × (List Int)) → Option (List Int)) (v23 : Int) (l3 : List Int) : Option (List Int) :=
  bif (decide (v23 < (List.length t.2 : Int))) then
    guardF (0 ≤ v23 ∧ v23 < (List.length t.2 : Int)) <|
    bindF (f198 kind (rd (0 : Int) t.2 v23)) fun q7_5 =>
    guardF (0 ≤ v23 ∧ v23 < (List.length l3 : Int)) <|
    go ((IntKind.i64.wrap (v23 + (1 : Int))), (List.set l3 (Int.toNat v23) q7_5.1))
  else
    some l3
def f179 (kind : Int) (t : (List Int) × (List Int)) : Option (Int × (List Int) × (List Int)) :=
  bindF (f179_j2 kind t) fun z5 =>
  sumF z5 (fun z5a =>
    bindF (f85 (t.1, t.2)) fun r11 =>
    bindF (loopF (fun go x => f179_l4 kind t go x.1 x.2) fuelN ((0 : Int), r11.2)) fun z12 =>
    some ((0 : Int), r11.1, z12)) (fun z5b =>
    some ((1 : Int), [], []))
def C179 : Con where
  X := Int × ((List Int) × (List Int))
  Y := Int × (List Int) × (List Int)
  e := 0
  args x := [.dat (.int .i64) x.1, .dat (.p (.sl (.int .i64)) (.sl (.int .i64))) x.2]
  hin x := []
  F x := f179 x.1 x.2
  ret y := [.raw true [(.osl 0), (.osl 1)], .dat (.int .i64) y.1]
  hout y := [(0, .arr 3 (.int .i64) y.2.1), (1, .arr 23 (.int .i64) y.2.2)]
  nout := 2
theorem C179_vc (kind : Int) (t : (List Int) × (List Int)) (y : Int × (List Int) × (List Int)) (hF : f179 kind t = some y) : vc Tryz.prog tab Tryz.f179.ntmps 0 (match Tryz.f179.body with | some c => c | none => .skip) (retK tab C179 Tryz.f179.results.toList y) (C179.shIn (kind, t)).st := by
  unfold f179 at hF
  refine Or.inl ?_
  obtain ⟨z5, hz5, hF⟩ := bindE hF
  refine Or.inr ⟨Sum.elim (fun z5a => [(0, ⟨[(0, .dat (.int .i64) kind), (3, .raw false [(.ptr 0 0)]), (4, .raw false [(.ptr 1 0)])], [(0, .cells [(.d (.sl (.int .i64)) t.1), (.d (.sl (.int .i64)) t.2)]), (1, .cells [(.c (.slice none 0 0)), (.c (.slice none 0 0))])], 2⟩)]) (fun z5b => [(1, ⟨[(4, .raw false [(.ptr 0 0)]), (5, .dat (.int .i64) (1 : Int))], [(0, .cells [(.c (.slice none 0 0)), (.c (.slice none 0 0))])], 1⟩)]) z5, ?_, ?_⟩
  · have hF := hz5
    clear hz5
    unfold f179_j2 at hF
    obtain ⟨z8, hz8, hF⟩ := bindE hF
    refine Or.inr ⟨[(0, ⟨[(0, .dat (.int .i64) kind), (3, .raw false [(.ptr 0 0)]), (4, .raw false [(.ptr 1 0)]), (16, .dat .bool z8)], [(0, .cells [(.d (.sl (.int .i64)) t.1), (.d (.sl (.int .i64)) t.2)]), (1, .cells [(.c (.slice none 0 0)), (.c (.slice none 0 0))])], 2⟩)], ?_, ?_⟩
    · have hF := hz8
      clear hz8
      unfold f179_j3 at hF
      obtain ⟨r9, hr9, hF⟩ := bindE hF
      refine Or.inl (And.intro f148_in (callV0 (callI C148 kind r9 [] false C148_holds hr9 rfl rfl ?_)))
      refine (And.intro rfl (And.intro (fun h => nomatch h) (And.intro rfl (And.intro rfl (And.intro trivial (And.intro trivial ?_))))))
      refine condN hF (fun hF => ?_) (fun hF => ?_)
      · refine gdYF ?_
        obtain ⟨r10, hr10, hF⟩ := bindE hF
        refine Or.inl (And.intro f86_in (callV0 (callI C86 (t.1, t.2) r10 [] false C86_holds hr10 rfl rfl ?_)))
        refine (And.intro rfl (And.intro rfl (And.intro (fun h => nomatch h) (And.intro rfl (And.intro rfl (And.intro trivial (And.intro trivial ?_)))))))
        refine gdYF ?_
        refine condF ?_
        have hz := someE hF
        subst hz
        refine Exists.intro [] (Exists.intro [] (Exists.intro [] (Exists.intro [] (Exists.intro [(0, some 0), (1, some 1)] (And.intro rfl (And.intro rfl (And.intro rfl (And.intro (And.intro rfl (And.intro rfl trivial)) (And.intro rfl (And.intro rfl trivial))))))))))
      · refine gdNF ?_
        refine gdNF ?_
        refine condT ?_
        have hz := someE hF
        subst hz
        refine Exists.intro [] (Exists.intro [] (Exists.intro [] (Exists.intro [] (Exists.intro [(0, some 0), (1, some 1)] (And.intro rfl (And.intro rfl (And.intro rfl (And.intro (And.intro rfl (And.intro rfl trivial)) (And.intro rfl (And.intro rfl trivial))))))))))
    · refine And.intro ?_ trivial
      refine condI hF (fun hF => ?_) (fun hF => ?_)
      · refine Or.inl ?_
        refine Or.inl ?_
        have hz := someE hF
        subst hz
        refine Exists.intro [] (Exists.intro [] (Exists.intro [] (Exists.intro [] (Exists.intro [(0, some 1)] (And.intro rfl (And.intro rfl (And.intro (And.intro rfl trivial) (And.intro rfl trivial))))))))
      · have hz := someE hF
        subst hz
        refine Exists.intro [] (Exists.intro [] (Exists.intro [] (Exists.intro [] (Exists.intro [(0, some 0), (1, some 1)] (And.intro rfl (And.intro rfl (And.intro (And.intro rfl (And.intro rfl trivial)) (And.intro rfl (And.intro rfl trivial)))))))))
  · rcases z5 with z5a | z5b
    · dsimp only [sumF] at hF
      refine And.intro ?_ trivial
      refine Or.inl ?_
      obtain ⟨r11, hr11, hF⟩ := bindE hF
      refine Or.inl (And.intro f85_in (callV0 (callI C85 (t.1, t.2) r11 [] false C85_holds hr11 rfl rfl ?_)))
      refine (And.intro rfl (And.intro rfl (And.intro (fun h => nomatch h) (And.intro rfl (And.intro rfl (And.intro trivial (And.intro trivial ?_)))))))
      refine Or.inl ?_
      refine Or.inl ?_
      refine Or.inl ?_
      obtain ⟨z12, hz12, hF⟩ := bindE hF
      refine loopI (Int × (List Int)) (List Int) (fun x => ⟨[(0, .dat (.int .i64) kind), (4, .raw false [(.ptr 0 0)]), (6, .raw false [(.ptr 1 0)]), (21, .dat (.sl (.int .i64)) t.2), (22, .dat (.int .i64) (List.length t.2 : Int)), (23, .dat (.int .i64) x.1)], [(0, .cells [(.c (.slice none 0 0)), (.c (.slice none 0 0))]), (1, .cells [(.osl 2), (.osl 3)]), (2, .arr 3 (.int .i64) r11.1), (3, .arr 23 (.int .i64) x.2)], 4⟩) (fun z => [(2, ⟨[(4, .raw false [(.ptr 0 0)]), (6, .raw false [(.ptr 1 0)])], [(0, .cells [(.c (.slice none 0 0)), (.c (.slice none 0 0))]), (1, .cells [(.osl 2), (.osl 3)]), (2, .arr 3 (.int .i64) r11.1), (3, .arr 23 (.int .i64) z)], 4⟩)]) (loopF (fun go x => f179_l4 kind t go x.1 x.2)) fuelN ((0 : Int), r11.2) z12 (And.intro hz12 (And.intro (Exists.intro [] (Exists.intro [] (Exists.intro [] (Exists.intro [] (Exists.intro [(0, some 1), (1, some 4), (2, some 2), (3, some 3)] (And.intro rfl (And.intro rfl (And.intro rfl (And.intro rfl (And.intro rfl (And.intro (And.intro rfl (And.intro rfl trivial)) (And.intro rfl (And.intro rfl (And.intro rfl (And.intro rfl trivial))))))))))))))) (And.intro (fun _ _ h => loopZ h) (And.intro (fun m => curI (fun v23 => fun l3 z hF => ?_)) ?_))))
      · have hF : f179_l4 kind t (loopF (fun go x => f179_l4 kind t go x.1 x.2) m) v23 l3 = some z := hF
        unfold f179_l4 at hF
        refine Or.inl ?_
        refine Or.inl ?_
        refine condI hF (fun hF => ?_) (fun hF => ?_)
        · refine Or.inl ?_
          refine Or.inl ?_
          refine guardI hF (fun hF => ?_)
          refine Exists.intro (.take 0 (.take 1 (.take 2 (.take 3 (.take 4 (.alt 5 (.take 6 (.take 7 (.take 8 (.take 9 (.alt 10 .done .done))))) .done)))))) (Exists.intro [] (Exists.intro [] (And.intro rfl ?_)))
          refine And.intro trivial ?_
          obtain ⟨q7_5, hq7_5, hF⟩ := bindE hF
          refine Or.inl (And.intro f198_in (callV0 (callI C198 (kind, (rd (0 : Int) t.2 v23)) q7_5 [] false C198_holds hq7_5 rfl rfl ?_)))
          refine (And.intro rfl (And.intro rfl (And.intro (fun h => nomatch h) (And.intro rfl (And.intro rfl (And.intro trivial (And.intro trivial ?_)))))))
          refine guardI hF (fun hF => ?_)
          refine And.intro trivial ?_
          refine Or.inl ?_
          refine Exists.intro ((IntKind.i64.wrap (v23 + (1 : Int))), (List.set l3 (Int.toNat v23) q7_5.1)) (And.intro hF (Exists.intro [] (Exists.intro [] (Exists.intro [] (Exists.intro [] (Exists.intro [(0, some 0), (1, some 1), (2, some 2), (3, some 3)] (And.intro rfl (And.intro rfl (And.intro rfl (And.intro rfl (And.intro rfl (And.intro (And.intro rfl (And.intro rfl trivial)) (And.intro rfl (And.intro rfl (And.intro rfl (And.intro rfl trivial))))))))))))))))
        · have hz := someE hF
          subst hz
          refine Exists.intro [] (Exists.intro [] (Exists.intro [] (Exists.intro [] (Exists.intro [(0, some 0), (1, some 1), (2, some 2), (3, some 3)] (And.intro rfl (And.intro (And.intro rfl (And.intro rfl trivial)) (And.intro rfl (And.intro rfl (And.intro rfl (And.intro rfl trivial))))))))))
      · refine And.intro ?_ trivial
        refine Or.inl ?_
        refine Or.inl ?_
        have hy := someE hF
        subst hy
        refine And.intro rfl (Exists.intro [] (Exists.intro [] (Exists.intro [] (Exists.intro [] (Exists.intro [(0, some 2), (1, some 3)] (And.intro rfl (And.intro rfl (And.intro (And.intro rfl trivial) (And.intro rfl (And.intro rfl trivial))))))))))
    · dsimp only [sumF] at hF
      refine And.intro ?_ trivial
      have hy := someE hF
      subst hy
      refine And.intro rfl (Exists.intro [] (Exists.intro [] (Exists.intro [] (Exists.intro [] (Exists.intro [(0, none), (1, none)] (And.intro rfl (And.intro rfl (And.intro (And.intro rfl trivial) (And.intro rfl (And.intro rfl trivial))))))))))
theorem C179_holds : C179.Holds Tryz.prog 179 := holds_of_vc tab_ok mixed (fn := Tryz.f179) (by kernel_rfl) rfl C179 (fun x y hF => C179_vc x.1 x.2 y hF)
theorem f179_in : ∃ fn, Tryz.prog.funcs[179]? = some fn ∧ fn.body.isSome = true ∧ (fn.name == "runtime.NumGoroutine") = false := ⟨Tryz.f179, by kernel_rfl, by kernel_rfl, by kernel_rfl⟩
end Go.Proofs
namespace Go.Proofs
open Go.AM
-- carousel/conv.Pool
def f156_j3 (a : (List Int) × (List Int)) (wid : Int) : Option Bool :=
  bif (decide (wid < (1 : Int))) then
    some true
  else
    guardF (0 ≤ (1 : Int) ∧ (1 : Int) < (List.length a.1 : Int)) <|
    some (decide (wid > (rd (0 : Int) a.1 (1 : Int))))
def f156_j2 (a : (List Int) × (List Int)) (wid : Int) : Option (Sum Unit Int) :=
  bindF (f86 (a.1, a.2)) fun r4 =>
  bif (!r4) then
    some (Sum.inr (1 : Int))
  else
    bif ((List.length a.1 : Int) != (2 : Int)) then
      some (Sum.inr (4 : Int))
    else
      bindF (f156_j3 a wid) fun z5 =>
      bif z5 then
        some (Sum.inr (1 : Int))
      else
        some (Sum.inl ())
def f156_l7 (a : (List Int) × (List Int)) (wid : Int) (v61 : Int) (go : (Int × Int) → Option Int) (best : Int) (at_ : Int) : Option Int :=
  guardF ((IntKind.i64.wrap (Int.tdiv (rd (0 : Int) a.1 (1 : Int)) wid)) ≠ 0) <|
  guardF ((IntKind.i64.wrap (Int.tdiv (rd (0 : Int) a.1 (1 : Int)) wid)) ≠ 0) <|
  bif (decide (at_ < (IntKind.i64.wrap ((IntKind.i64.wrap ((IntKind.i64.wrap ((IntKind.i64.wrap (Int.tdiv v61 (IntKind.i64.wrap (Int.tdiv (rd (0 : Int) a.1 (1 : Int)) wid)))) * (rd (0 : Int) a.1 (1 : Int)))) + (IntKind.i64.wrap ((Int.tmod v61 (IntKind.i64.wrap (Int.tdiv (rd (0 : Int) a.1 (1 : Int)) wid))) * wid)))) + wid)))) then
    guardF (0 ≤ at_ ∧ at_ < (List.length a.2 : Int)) <|
    guardF (0 ≤ best ∧ best < (List.length a.2 : Int)) <|
    bif (decide ((rd (0 : Int) a.2 at_) > (rd (0 : Int) a.2 best))) then
      go (at_, (IntKind.i64.wrap (at_ + (1 : Int))))
    else
      go (best, (IntKind.i64.wrap (at_ + (1 : Int))))
  else
    some best
def f156_l6 (a : (List Int) × (List Int)) (wid : Int) (q7_11 : Int × (List Int) × (List Int)) (go : (Int × (List Int) × (List Int)) → Option ((List Int) × (List Int))) (v61 : Int) (l3 : List Int) (l5 : List Int) : Option ((List Int) × (List Int)) :=
  bif (decide (v61 < (List.length q7_11.2.2 : Int))) then
    guardF ((IntKind.i64.wrap (Int.tdiv (rd (0 : Int) a.1 (1 : Int)) wid)) ≠ 0) <|
    guardF ((IntKind.i64.wrap (Int.tdiv (rd (0 : Int) a.1 (1 : Int)) wid)) ≠ 0) <|
    bindF (loopF (fun go x => f156_l7 a wid v61 go x.1 x.2) fuelN ((IntKind.i64.wrap ((IntKind.i64.wrap ((IntKind.i64.wrap (Int.tdiv v61 (IntKind.i64.wrap (Int.tdiv (rd (0 : Int) a.1 (1 : Int)) wid)))) * (rd (0 : Int) a.1 (1 : Int)))) + (IntKind.i64.wrap ((Int.tmod v61 (IntKind.i64.wrap (Int.tdiv (rd (0 : Int) a.1 (1 : Int)) wid))) * wid)))), (IntKind.i64.wrap ((IntKind.i64.wrap ((IntKind.i64.wrap ((IntKind.i64.wrap (Int.tdiv v61 (IntKind.i64.wrap (Int.tdiv (rd (0 : Int) a.1 (1 : Int)) wid)))) * (rd (0 : Int) a.1 (1 : Int)))) + (IntKind.i64.wrap ((Int.tmod v61 (IntKind.i64.wrap (Int.tdiv (rd (0 : Int) a.1 (1 : Int)) wid))) * wid)))) + (1 : Int))))) fun z9 =>
    guardF (0 ≤ z9 ∧ z9 < (List.length a.2 : Int)) <|
    guardF (0 ≤ v61 ∧ v61 < (List.length l5 : Int)) <|
    guardF ((List.length l3 + List.length ([z9])) * 8 ≤ 140737488355328) <|
    go ((IntKind.i64.wrap (v61 + (1 : Int))), (l3 ++ ([z9])), (List.set l5 (Int.toNat v61) (rd (0 : Int) a.2 z9)))
  else
    some (l3, l5)
def f156 (a : (List Int) × (List Int)) (wid : Int) : Option (Int × (List Int) × (List Int) × (List Int)) :=
  bindF (f156_j2 a wid) fun z3 =>
  sumF z3 (fun z3a =>
    guardF (0 ≤ (1 : Int) ∧ (1 : Int) < (List.length a.1 : Int)) <|
    guardF (0 ≤ (1 : Int) ∧ (1 : Int) < (List.length a.1 : Int)) <|
    guardF (wid ≠ 0) <|
    guardF (0 ≤ (0 : Int) ∧ (0 : Int) < (List.length a.1 : Int)) <|
    bindF (f153 ([(rd (0 : Int) a.1 (0 : Int)), (IntKind.i64.wrap (Int.tdiv (rd (0 : Int) a.1 (1 : Int)) wid))])) fun q7_11 =>
    bindF (loopF (fun go x => f156_l6 a wid q7_11 go x.1 x.2.1 x.2.2) fuelN ((0 : Int), [], q7_11.2.2)) fun z8 =>
    some ((0 : Int), q7_11.2.1, z8.2, z8.1)) (fun z3b =>
    some (z3b, [], [], []))
def C156 : Con where
  X := ((List Int) × (List Int)) × Int
  Y := Int × (List Int) × (List Int) × (List Int)
  e := 0
  args x := [.dat (.p (.sl (.int .i64)) (.sl (.int .i64))) x.1, .dat (.int .i64) x.2]
  hin x := []
  F x := f156 x.1 x.2
  ret y := [.raw true [(.osl 0), (.osl 1)], .raw false [(.osl 2)], .dat (.int .i64) y.1]
  hout y := [(0, .arr 3 (.int .i64) y.2.1), (1, .arr 23 (.int .i64) y.2.2.1), (2, .arr 3 (.int .i64) y.2.2.2)]
  nout := 3
theorem C156_vc (a : (List Int) × (List Int)) (wid : Int) (y : Int × (List Int) × (List Int) × (List Int)) (hF : f156 a wid = some y) : vc Tryz.prog tab Tryz.f156.ntmps 0 (match Tryz.f156.body with | some c => c | none => .skip) (retK tab C156 Tryz.f156.results.toList y) (C156.shIn (a, wid)).st := by
  unfold f156 at hF
  refine Or.inl ?_
  obtain ⟨z3, hz3, hF⟩ := bindE hF
  refine Or.inr ⟨Sum.elim (fun z3a => [(0, ⟨[(1, .dat (.int .i64) wid), (2, .raw false [(.ptr 0 0)]), (4, .raw false [(.ptr 1 0)])], [(0, .cells [(.d (.sl (.int .i64)) a.1), (.d (.sl (.int .i64)) a.2)]), (1, .cells [(.c (.slice none 0 0)), (.c (.slice none 0 0))])], 2⟩)]) (fun z3b => [(1, ⟨[(4, .raw false [(.ptr 0 0)]), (5, .raw false [(.c (.slice none 0 0))]), (6, .dat (.int .i64) z3b)], [(0, .cells [(.c (.slice none 0 0)), (.c (.slice none 0 0))])], 1⟩)]) z3, ?_, ?_⟩
  · have hF := hz3
    clear hz3
    unfold f156_j2 at hF
    refine Or.inl ?_
    obtain ⟨r4, hr4, hF⟩ := bindE hF
    refine Or.inl (And.intro f86_in (callV0 (callI C86 (a.1, a.2) r4 [] false C86_holds hr4 rfl rfl ?_)))
    refine (And.intro rfl (And.intro rfl (And.intro (fun h => nomatch h) (And.intro rfl (And.intro rfl (And.intro trivial (And.intro trivial ?_)))))))
    refine condI hF (fun hF => ?_) (fun hF => ?_)
    · refine Or.inl ?_
      refine Or.inl ?_
      have hz := someE hF
      subst hz
      refine Exists.intro [] (Exists.intro [] (Exists.intro [] (Exists.intro [] (Exists.intro [(0, some 1)] (And.intro rfl (And.intro rfl (And.intro (And.intro rfl (And.intro rfl trivial)) (And.intro rfl trivial))))))))
    · refine Or.inl ?_
      refine condI hF (fun hF => ?_) (fun hF => ?_)
      · refine Or.inl ?_
        refine Or.inl ?_
        have hz := someE hF
        subst hz
        refine Exists.intro [] (Exists.intro [] (Exists.intro [] (Exists.intro [] (Exists.intro [(0, some 1)] (And.intro rfl (And.intro rfl (And.intro (And.intro rfl (And.intro rfl trivial)) (And.intro rfl trivial))))))))
      · obtain ⟨z5, hz5, hF⟩ := bindE hF
        refine Or.inr ⟨[(0, ⟨[(1, .dat (.int .i64) wid), (2, .raw false [(.ptr 0 0)]), (4, .raw false [(.ptr 1 0)]), (26, .dat .bool z5)], [(0, .cells [(.d (.sl (.int .i64)) a.1), (.d (.sl (.int .i64)) a.2)]), (1, .cells [(.c (.slice none 0 0)), (.c (.slice none 0 0))])], 2⟩)], ?_, ?_⟩
        · have hF := hz5
          clear hz5
          unfold f156_j3 at hF
          refine condN hF (fun hF => ?_) (fun hF => ?_)
          · refine gdYF ?_
            refine gdYF ?_
            refine gdYF ?_
            refine guardI hF (fun hF => ?_)
            refine gdYF ?_
            refine gdYF ?_
            refine condF ?_
            have hz := someE hF
            subst hz
            refine Exists.intro [] (Exists.intro [] (Exists.intro [] (Exists.intro [] (Exists.intro [(0, some 0), (1, some 1)] (And.intro rfl (And.intro rfl (And.intro rfl (And.intro (And.intro rfl (And.intro rfl trivial)) (And.intro rfl (And.intro rfl trivial))))))))))
          · refine gdNF ?_
            refine gdNF ?_
            refine gdNF ?_
            refine gdNF ?_
            refine gdNF ?_
            refine condT ?_
            have hz := someE hF
            subst hz
            refine Exists.intro [] (Exists.intro [] (Exists.intro [] (Exists.intro [] (Exists.intro [(0, some 0), (1, some 1)] (And.intro rfl (And.intro rfl (And.intro rfl (And.intro (And.intro rfl (And.intro rfl trivial)) (And.intro rfl (And.intro rfl trivial))))))))))
        · refine And.intro ?_ trivial
          refine condI hF (fun hF => ?_) (fun hF => ?_)
          · refine Or.inl ?_
            refine Or.inl ?_
            have hz := someE hF
            subst hz
            refine Exists.intro [] (Exists.intro [] (Exists.intro [] (Exists.intro [] (Exists.intro [(0, some 1)] (And.intro rfl (And.intro rfl (And.intro (And.intro rfl (And.intro rfl trivial)) (And.intro rfl trivial))))))))
          · have hz := someE hF
            subst hz
            refine Exists.intro [] (Exists.intro [] (Exists.intro [] (Exists.intro [] (Exists.intro [(0, some 0), (1, some 1)] (And.intro rfl (And.intro rfl (And.intro (And.intro rfl (And.intro rfl trivial)) (And.intro rfl (And.intro rfl trivial)))))))))
  · rcases z3 with z3a | z3b
    · dsimp only [sumF] at hF
      refine And.intro ?_ trivial
      refine Or.inl ?_
      refine Exists.intro (.take 0 (.take 1 (.take 2 (.take 3 (.take 4 (.take 5 (.take 6 (.take 7 (.take 8 (.take 9 (.take 10 (.take 11 .done)))))))))))) (Exists.intro [] (Exists.intro [] (And.intro rfl ?_)))
      refine guardI hF (fun hF => ?_)
      refine guardI hF (fun hF => ?_)
      refine guardI hF (fun hF => ?_)
      refine Or.inl ?_
      refine guardI hF (fun hF => ?_)
      refine Or.inl ?_
      obtain ⟨q7_11, hq7_11, hF⟩ := bindE hF
      refine Or.inl (And.intro f153_in (callV0 (callI C153 [(rd (0 : Int) a.1 (0 : Int)), (IntKind.i64.wrap (Int.tdiv (rd (0 : Int) a.1 (1 : Int)) wid))] q7_11 [] true C153_holds hq7_11 rfl rfl ?_)))
      refine (And.intro rfl (And.intro (fun _ => rfl) (And.intro rfl (And.intro rfl (And.intro trivial (And.intro trivial ?_))))))
      refine Or.inl ?_
      refine Or.inl ?_
      refine Or.inl ?_
      refine Or.inl ?_
      obtain ⟨z8, hz8, hF⟩ := bindE hF
      refine loopI (Int × (List Int) × (List Int)) ((List Int) × (List Int)) (fun x => ⟨[(1, .dat (.int .i64) wid), (2, .raw false [(.ptr 0 0)]), (4, .raw false [(.ptr 1 0)]), (7, .dat (.int .i64) (rd (0 : Int) a.1 (1 : Int))), (8, .dat (.int .i64) (IntKind.i64.wrap (Int.tdiv (rd (0 : Int) a.1 (1 : Int)) wid))), (9, .raw false [(.ptr 2 0)]), (11, .raw false [(.osl 3)]), (60, .dat (.int .i64) (List.length q7_11.2.2 : Int)), (61, .dat (.int .i64) x.1)], [(0, .cells [(.d (.sl (.int .i64)) a.1), (.d (.sl (.int .i64)) a.2)]), (1, .cells [(.c (.slice none 0 0)), (.c (.slice none 0 0))]), (2, .cells [(.osl 4), (.osl 5)]), (3, .arr 3 (.int .i64) x.2.1), (4, .arr 3 (.int .i64) q7_11.2.1), (5, .arr 23 (.int .i64) x.2.2)], 6⟩) (fun z => [(3, ⟨[(4, .raw false [(.ptr 0 0)]), (9, .raw false [(.ptr 1 0)]), (11, .raw false [(.osl 2)])], [(0, .cells [(.c (.slice none 0 0)), (.c (.slice none 0 0))]), (1, .cells [(.osl 3), (.osl 4)]), (2, .arr 3 (.int .i64) z.1), (3, .arr 3 (.int .i64) q7_11.2.1), (4, .arr 23 (.int .i64) z.2)], 5⟩)]) (loopF (fun go x => f156_l6 a wid q7_11 go x.1 x.2.1 x.2.2)) fuelN ((0 : Int), [], q7_11.2.2) z8 (And.intro hz8 (And.intro (Exists.intro [] (Exists.intro [] (Exists.intro [] (Exists.intro [] (Exists.intro [(0, some 0), (1, some 1), (2, some 5), (3, none), (4, some 3), (5, some 4)] (And.intro rfl (And.intro rfl (And.intro rfl (And.intro rfl (And.intro rfl (And.intro rfl (And.intro (And.intro rfl (And.intro rfl (And.intro rfl (And.intro rfl trivial)))) (And.intro rfl (And.intro rfl (And.intro rfl (And.intro rfl (And.intro rfl (And.intro rfl trivial)))))))))))))))))) (And.intro (fun _ _ h => loopZ h) (And.intro (fun m => curI (fun v61 => curI (fun l3 => fun l5 z hF => ?_))) ?_))))
      · have hF : f156_l6 a wid q7_11 (loopF (fun go x => f156_l6 a wid q7_11 go x.1 x.2.1 x.2.2) m) v61 l3 l5 = some z := hF
        unfold f156_l6 at hF
        refine Or.inl ?_
        refine Or.inl ?_
        refine condI hF (fun hF => ?_) (fun hF => ?_)
        · refine Or.inl ?_
          refine Or.inl ?_
          refine Or.inl ?_
          refine Exists.intro (.take 0 (.take 1 (.take 2 (.take 3 (.take 4 (.take 5 (.take 6 (.take 7 (.take 8 (.take 9 (.take 10 (.take 11 .done)))))))))))) (Exists.intro [] (Exists.intro [] (And.intro rfl ?_)))
          refine guardI hF (fun hF => ?_)
          refine guardI hF (fun hF => ?_)
          refine Or.inl ?_
          refine Or.inl ?_
          obtain ⟨z9, hz9, hF⟩ := bindE hF
          refine loopI (Int × Int) Int (fun x => ⟨[(1, .dat (.int .i64) wid), (2, .raw false [(.ptr 0 0)]), (4, .raw false [(.ptr 1 0)]), (7, .dat (.int .i64) (rd (0 : Int) a.1 (1 : Int))), (8, .dat (.int .i64) (IntKind.i64.wrap (Int.tdiv (rd (0 : Int) a.1 (1 : Int)) wid))), (9, .raw false [(.ptr 2 0)]), (11, .raw false [(.osl 3)]), (12, .dat (.int .i64) v61), (13, .dat (.int .i64) x.1), (14, .dat (.int .i64) x.2), (60, .dat (.int .i64) (List.length q7_11.2.2 : Int)), (61, .dat (.int .i64) v61)], [(0, .cells [(.d (.sl (.int .i64)) a.1), (.d (.sl (.int .i64)) a.2)]), (1, .cells [(.c (.slice none 0 0)), (.c (.slice none 0 0))]), (2, .cells [(.osl 4), (.osl 5)]), (3, .arr 3 (.int .i64) l3), (4, .arr 3 (.int .i64) q7_11.2.1), (5, .arr 23 (.int .i64) l5)], 6⟩) (fun z => [(5, ⟨[(1, .dat (.int .i64) wid), (2, .raw false [(.ptr 0 0)]), (4, .raw false [(.ptr 1 0)]), (7, .dat (.int .i64) (rd (0 : Int) a.1 (1 : Int))), (8, .dat (.int .i64) (IntKind.i64.wrap (Int.tdiv (rd (0 : Int) a.1 (1 : Int)) wid))), (9, .raw false [(.ptr 2 0)]), (11, .raw false [(.osl 3)]), (12, .dat (.int .i64) v61), (13, .dat (.int .i64) z), (60, .dat (.int .i64) (List.length q7_11.2.2 : Int)), (61, .dat (.int .i64) v61)], [(0, .cells [(.d (.sl (.int .i64)) a.1), (.d (.sl (.int .i64)) a.2)]), (1, .cells [(.c (.slice none 0 0)), (.c (.slice none 0 0))]), (2, .cells [(.osl 4), (.osl 5)]), (3, .arr 3 (.int .i64) l3), (4, .arr 3 (.int .i64) q7_11.2.1), (5, .arr 23 (.int .i64) l5)], 6⟩)]) (loopF (fun go x => f156_l7 a wid v61 go x.1 x.2)) fuelN ((IntKind.i64.wrap ((IntKind.i64.wrap ((IntKind.i64.wrap (Int.tdiv v61 (IntKind.i64.wrap (Int.tdiv (rd (0 : Int) a.1 (1 : Int)) wid)))) * (rd (0 : Int) a.1 (1 : Int)))) + (IntKind.i64.wrap ((Int.tmod v61 (IntKind.i64.wrap (Int.tdiv (rd (0 : Int) a.1 (1 : Int)) wid))) * wid)))), (IntKind.i64.wrap ((IntKind.i64.wrap ((IntKind.i64.wrap ((IntKind.i64.wrap (Int.tdiv v61 (IntKind.i64.wrap (Int.tdiv (rd (0 : Int) a.1 (1 : Int)) wid)))) * (rd (0 : Int) a.1 (1 : Int)))) + (IntKind.i64.wrap ((Int.tmod v61 (IntKind.i64.wrap (Int.tdiv (rd (0 : Int) a.1 (1 : Int)) wid))) * wid)))) + (1 : Int)))) z9 (And.intro hz9 (And.intro (Exists.intro [] (Exists.intro [] (Exists.intro [] (Exists.intro [] (Exists.intro [(0, some 0), (1, some 1), (2, some 2), (3, some 3), (4, some 4), (5, some 5)] (And.intro rfl (And.intro rfl (And.intro rfl (And.intro rfl (And.intro rfl (And.intro rfl (And.intro rfl (And.intro rfl (And.intro rfl (And.intro (And.intro rfl (And.intro rfl (And.intro rfl (And.intro rfl trivial)))) (And.intro rfl (And.intro rfl (And.intro rfl (And.intro rfl (And.intro rfl (And.intro rfl trivial))))))))))))))))))))) (And.intro (fun _ _ h => loopZ h) (And.intro (fun m => curI (fun best => fun at_ z hF => ?_)) ?_))))
          · have hF : f156_l7 a wid v61 (loopF (fun go x => f156_l7 a wid v61 go x.1 x.2) m) best at_ = some z := hF
            unfold f156_l7 at hF
            refine Or.inl ?_
            refine Or.inl ?_
            refine Exists.intro (.take 0 (.take 1 (.take 2 (.take 3 (.take 4 (.take 5 (.take 6 (.take 7 (.take 8 (.take 9 (.take 10 (.take 11 (.take 12 (.take 13 (.take 14 .done))))))))))))))) (Exists.intro [] (Exists.intro [] (And.intro rfl ?_)))
            refine guardI hF (fun hF => ?_)
            refine guardI hF (fun hF => ?_)
            refine condI hF (fun hF => ?_) (fun hF => ?_)
            · refine Or.inl ?_
              refine Or.inl ?_
              refine Exists.intro (.take 0 (.take 1 (.take 2 (.take 3 (.take 4 (.take 5 (.take 6 (.take 7 (.take 8 (.take 9 (.take 10 .done))))))))))) (Exists.intro [] (Exists.intro [] (And.intro rfl ?_)))
              refine guardI hF (fun hF => ?_)
              refine guardI hF (fun hF => ?_)
              refine condI hF (fun hF => ?_) (fun hF => ?_)
              · refine Exists.intro (at_, (IntKind.i64.wrap (at_ + (1 : Int)))) (And.intro hF (Exists.intro [] (Exists.intro [] (Exists.intro [] (Exists.intro [] (Exists.intro [(0, some 0), (1, some 1), (2, some 2), (3, some 3), (4, some 4), (5, some 5)] (And.intro rfl (And.intro rfl (And.intro rfl (And.intro rfl (And.intro rfl (And.intro rfl (And.intro rfl (And.intro rfl (And.intro rfl (And.intro (And.intro rfl (And.intro rfl (And.intro rfl (And.intro rfl trivial)))) (And.intro rfl (And.intro rfl (And.intro rfl (And.intro rfl (And.intro rfl (And.intro rfl trivial))))))))))))))))))))))
              · refine Exists.intro (best, (IntKind.i64.wrap (at_ + (1 : Int)))) (And.intro hF (Exists.intro [] (Exists.intro [] (Exists.intro [] (Exists.intro [] (Exists.intro [(0, some 0), (1, some 1), (2, some 2), (3, some 3), (4, some 4), (5, some 5)] (And.intro rfl (And.intro rfl (And.intro rfl (And.intro rfl (And.intro rfl (And.intro rfl (And.intro rfl (And.intro rfl (And.intro rfl (And.intro (And.intro rfl (And.intro rfl (And.intro rfl (And.intro rfl trivial)))) (And.intro rfl (And.intro rfl (And.intro rfl (And.intro rfl (And.intro rfl (And.intro rfl trivial))))))))))))))))))))))
            · have hz := someE hF
              subst hz
              refine Exists.intro [] (Exists.intro [] (Exists.intro [] (Exists.intro [] (Exists.intro [(0, some 0), (1, some 1), (2, some 2), (3, some 3), (4, some 4), (5, some 5)] (And.intro rfl (And.intro rfl (And.intro rfl (And.intro rfl (And.intro rfl (And.intro rfl (And.intro rfl (And.intro rfl (And.intro (And.intro rfl (And.intro rfl (And.intro rfl (And.intro rfl trivial)))) (And.intro rfl (And.intro rfl (And.intro rfl (And.intro rfl (And.intro rfl (And.intro rfl trivial)))))))))))))))))))
          · refine And.intro ?_ trivial
            refine Or.inl ?_
            refine Exists.intro (.take 0 (.take 1 (.take 2 (.take 3 (.take 4 (.take 5 (.take 6 (.take 7 (.take 8 (.alt 9 .done .done)))))))))) (Exists.intro [] (Exists.intro [] (And.intro rfl ?_)))
            refine guardI hF (fun hF => ?_)
            refine guardI hF (fun hF => ?_)
            refine And.intro trivial ?_
            refine Or.inl ?_
            refine Or.inl ?_
            refine Or.inl ?_
            refine guardI hF (fun hF => ?_)
            refine Exists.intro ((IntKind.i64.wrap (v61 + (1 : Int))), (l3 ++ ([z9])), (List.set l5 (Int.toNat v61) (rd (0 : Int) a.2 z9))) (And.intro hF (Exists.intro [] (Exists.intro [] (Exists.intro [] (Exists.intro [] (Exists.intro [(0, some 0), (1, some 1), (2, some 2), (3, some 7), (4, some 4), (5, some 5)] (And.intro rfl (And.intro rfl (And.intro rfl (And.intro rfl (And.intro rfl (And.intro rfl (And.intro (And.intro rfl (And.intro rfl (And.intro rfl (And.intro rfl trivial)))) (And.intro rfl (And.intro rfl (And.intro rfl (And.intro rfl (And.intro rfl (And.intro rfl trivial)))))))))))))))))))
        · have hz := someE hF
          subst hz
          refine Exists.intro [] (Exists.intro [] (Exists.intro [] (Exists.intro [] (Exists.intro [(0, some 1), (1, some 2), (2, some 3), (3, some 4), (4, some 5)] (And.intro rfl (And.intro (And.intro rfl (And.intro rfl (And.intro rfl trivial))) (And.intro rfl (And.intro rfl (And.intro rfl (And.intro rfl (And.intro rfl trivial)))))))))))
      · refine And.intro ?_ trivial
        refine Or.inl ?_
        refine Or.inl ?_
        have hy := someE hF
        subst hy
        refine And.intro rfl (Exists.intro [] (Exists.intro [] (Exists.intro [] (Exists.intro [] (Exists.intro [(0, some 3), (1, some 4), (2, some 2)] (And.intro rfl (And.intro rfl (And.intro (And.intro rfl (And.intro rfl trivial)) (And.intro rfl (And.intro rfl (And.intro rfl trivial)))))))))))
    · dsimp only [sumF] at hF
      refine And.intro ?_ trivial
      have hy := someE hF
      subst hy
      refine And.intro rfl (Exists.intro [] (Exists.intro [] (Exists.intro [] (Exists.intro [] (Exists.intro [(0, none), (1, none), (2, none)] (And.intro rfl (And.intro rfl (And.intro (And.intro rfl (And.intro rfl trivial)) (And.intro rfl (And.intro rfl (And.intro rfl trivial)))))))))))
theorem C156_holds : C156.Holds Tryz.prog 156 := holds_of_vc tab_ok mixed (fn := Tryz.f156) (by kernel_rfl) rfl C156 (fun x y hF => C156_vc x.1 x.2 y hF)
theorem f156_in : ∃ fn, Tryz.prog.funcs[156]? = some fn ∧ fn.body.isSome = true ∧ (fn.name == "runtime.NumGoroutine") = false := ⟨Tryz.f156, by kernel_rfl, by kernel_rfl, by kernel_rfl⟩
end Go.Proofs
namespace Go.Proofs
open Go.AM
-- carousel/tens.Reshape
def f118_j3 (a : (List Int) × (List Int)) (d : List Int) : Option Bool :=
  bindF (f86 (a.1, a.2)) fun r8 =>
  bif (!r8) then
    some true
  else
    bindF (f72 d) fun r9 =>
    some (!r9)
def f118_j2 (a : (List Int) × (List Int)) (d : List Int) : Option (Sum Unit Int) :=
  bindF (f118_j3 a d) fun z7 =>
  bif z7 then
    some (Sum.inr (1 : Int))
  else
    bindF (f83 d) fun q3_1 =>
    bif (q3_1 != (List.length a.2 : Int)) then
      some (Sum.inr (4 : Int))
    else
      some (Sum.inl ())
def f118 (a : (List Int) × (List Int)) (d : List Int) : Option (Int × (List Int) × (List Int)) :=
  bindF (f118_j2 a d) fun z5 =>
  sumF z5 (fun z5a =>
    bindF (f82 d) fun q5_1 =>
    bindF (f60 a.2) fun q5_4 =>
    some ((0 : Int), q5_1, q5_4)) (fun z5b =>
    some (z5b, [], []))
def C118 : Con where
  X := ((List Int) × (List Int)) × (List Int)
  Y := Int × (List Int) × (List Int)
  e := 0
  args x := [.dat (.p (.sl (.int .i64)) (.sl (.int .i64))) x.1, .dat (.sl (.int .i64)) x.2]
  hin x := []
  F x := f118 x.1 x.2
  ret y := [.raw true [(.osl 0), (.osl 1)], .dat (.int .i64) y.1]
  hout y := [(0, .arr 3 (.int .i64) y.2.1), (1, .arr 23 (.int .i64) y.2.2)]
  nout := 2
theorem C118_vc (a : (List Int) × (List Int)) (d : List Int) (y : Int × (List Int) × (List Int)) (hF : f118 a d = some y) : vc Tryz.prog tab Tryz.f118.ntmps 0 (match Tryz.f118.body with | some c => c | none => .skip) (retK tab C118 Tryz.f118.results.toList y) (C118.shIn (a, d)).st := by
  unfold f118 at hF
  refine Or.inl ?_
  obtain ⟨z5, hz5, hF⟩ := bindE hF
  refine Or.inr ⟨Sum.elim (fun z5a => [(0, ⟨[(1, .dat (.sl (.int .i64)) d), (2, .raw false [(.ptr 0 0)]), (4, .raw false [(.ptr 1 0)])], [(0, .cells [(.d (.sl (.int .i64)) a.1), (.d (.sl (.int .i64)) a.2)]), (1, .cells [(.c (.slice none 0 0)), (.c (.slice none 0 0))])], 2⟩)]) (fun z5b => [(1, ⟨[(4, .raw false [(.ptr 0 0)]), (5, .dat (.int .i64) z5b)], [(0, .cells [(.c (.slice none 0 0)), (.c (.slice none 0 0))])], 1⟩)]) z5, ?_, ?_⟩
  · have hF := hz5
    clear hz5
    unfold f118_j2 at hF
    obtain ⟨z7, hz7, hF⟩ := bindE hF
    refine Or.inr ⟨[(0, ⟨[(1, .dat (.sl (.int .i64)) d), (2, .raw false [(.ptr 0 0)]), (4, .raw false [(.ptr 1 0)]), (6, .dat .bool z7)], [(0, .cells [(.d (.sl (.int .i64)) a.1), (.d (.sl (.int .i64)) a.2)]), (1, .cells [(.c (.slice none 0 0)), (.c (.slice none 0 0))])], 2⟩)], ?_, ?_⟩
    · have hF := hz7
      clear hz7
      unfold f118_j3 at hF
      obtain ⟨r8, hr8, hF⟩ := bindE hF
      refine Or.inl (And.intro f86_in (callV0 (callI C86 (a.1, a.2) r8 [] false C86_holds hr8 rfl rfl ?_)))
      refine (And.intro rfl (And.intro rfl (And.intro (fun h => nomatch h) (And.intro rfl (And.intro rfl (And.intro trivial (And.intro trivial ?_)))))))
      refine condN hF (fun hF => ?_) (fun hF => ?_)
      · refine gdYF ?_
        obtain ⟨r9, hr9, hF⟩ := bindE hF
        refine Or.inl (And.intro f72_in (callV0 (callI C72 d r9 [] false C72_holds hr9 rfl rfl ?_)))
        refine (And.intro rfl (And.intro (fun h => nomatch h) (And.intro rfl (And.intro rfl (And.intro trivial (And.intro trivial ?_))))))
        refine gdYF ?_
        refine condF ?_
        have hz := someE hF
        subst hz
        refine Exists.intro [] (Exists.intro [] (Exists.intro [] (Exists.intro [] (Exists.intro [(0, some 0), (1, some 1)] (And.intro rfl (And.intro rfl (And.intro rfl (And.intro (And.intro rfl (And.intro rfl trivial)) (And.intro rfl (And.intro rfl trivial))))))))))
      · refine gdNF ?_
        refine gdNF ?_
        refine condT ?_
        have hz := someE hF
        subst hz
        refine Exists.intro [] (Exists.intro [] (Exists.intro [] (Exists.intro [] (Exists.intro [(0, some 0), (1, some 1)] (And.intro rfl (And.intro rfl (And.intro rfl (And.intro (And.intro rfl (And.intro rfl trivial)) (And.intro rfl (And.intro rfl trivial))))))))))
    · refine And.intro ?_ trivial
      refine condI hF (fun hF => ?_) (fun hF => ?_)
      · refine Or.inl ?_
        refine Or.inl ?_
        have hz := someE hF
        subst hz
        refine Exists.intro [] (Exists.intro [] (Exists.intro [] (Exists.intro [] (Exists.intro [(0, some 1)] (And.intro rfl (And.intro rfl (And.intro (And.intro rfl trivial) (And.intro rfl trivial))))))))
      · refine Or.inl ?_
        refine Exists.intro (.take 0 (.take 2 (.take 3 (.take 4 (.alt 1 (.take 5 (.take 6 .done)) .done))))) (Exists.intro [] (Exists.intro [] (And.intro rfl ?_)))
        refine And.intro trivial ?_
        obtain ⟨q3_1, hq3_1, hF⟩ := bindE hF
        refine Or.inl (And.intro f83_in (callV0 (callI C83 d q3_1 [] false C83_holds hq3_1 rfl rfl ?_)))
        refine (And.intro rfl (And.intro (fun h => nomatch h) (And.intro rfl (And.intro rfl (And.intro trivial (And.intro trivial ?_))))))
        refine condI hF (fun hF => ?_) (fun hF => ?_)
        · refine Or.inl ?_
          refine Or.inl ?_
          have hz := someE hF
          subst hz
          refine Exists.intro [] (Exists.intro [] (Exists.intro [] (Exists.intro [] (Exists.intro [(0, some 1)] (And.intro rfl (And.intro rfl (And.intro (And.intro rfl trivial) (And.intro rfl trivial))))))))
        · have hz := someE hF
          subst hz
          refine Exists.intro [] (Exists.intro [] (Exists.intro [] (Exists.intro [] (Exists.intro [(0, some 0), (1, some 1)] (And.intro rfl (And.intro rfl (And.intro (And.intro rfl (And.intro rfl trivial)) (And.intro rfl (And.intro rfl trivial)))))))))
  · rcases z5 with z5a | z5b
    · dsimp only [sumF] at hF
      refine And.intro ?_ trivial
      refine Or.inl ?_
      refine Exists.intro (.take 0 (.take 2 (.take 3 (.alt 1 (.alt 4 (.take 5 (.alt 6 (.take 7 .done) .done)) .done) .done)))) (Exists.intro [] (Exists.intro [] (And.intro rfl ?_)))
      refine And.intro trivial ?_
      obtain ⟨q5_1, hq5_1, hF⟩ := bindE hF
      refine Or.inl (And.intro f82_in (callV0 (callI C82 d q5_1 [] false C82_holds hq5_1 rfl rfl ?_)))
      refine (And.intro rfl (And.intro (fun h => nomatch h) (And.intro rfl (And.intro rfl (And.intro trivial (And.intro trivial ?_))))))
      refine And.intro trivial ?_
      obtain ⟨q5_4, hq5_4, hF⟩ := bindE hF
      refine Or.inl (And.intro f60_in (callV0 (callI C60 a.2 q5_4 [] false C60_holds hq5_4 rfl rfl ?_)))
      refine (And.intro rfl (And.intro (fun h => nomatch h) (And.intro rfl (And.intro rfl (And.intro trivial (And.intro trivial ?_))))))
      refine And.intro trivial ?_
      refine Or.inl ?_
      have hy := someE hF
      subst hy
      refine And.intro rfl (Exists.intro [] (Exists.intro [] (Exists.intro [] (Exists.intro [] (Exists.intro [(0, some 2), (1, some 3)] (And.intro rfl (And.intro rfl (And.intro (And.intro rfl trivial) (And.intro rfl (And.intro rfl trivial))))))))))
    · dsimp only [sumF] at hF
      refine And.intro ?_ trivial
      have hy := someE hF
      subst hy
      refine And.intro rfl (Exists.intro [] (Exists.intro [] (Exists.intro [] (Exists.intro [] (Exists.intro [(0, none), (1, none)] (And.intro rfl (And.intro rfl (And.intro (And.intro rfl trivial) (And.intro rfl (And.intro rfl trivial))))))))))
theorem C118_holds : C118.Holds Tryz.prog 118 := holds_of_vc tab_ok mixed (fn := Tryz.f118) (by kernel_rfl) rfl C118 (fun x y hF => C118_vc x.1 x.2 y hF)
theorem f118_in : ∃ fn, Tryz.prog.funcs[118]? = some fn ∧ fn.body.isSome = true ∧ (fn.name == "runtime.NumGoroutine") = false := ⟨Tryz.f118, by kernel_rfl, by kernel_rfl, by kernel_rfl⟩
end Go.Proofs
namespace Go.Proofs
open Go.AM
-- carousel/tape.one
def f139 (op : Int) (a : (List Int) × (List Int)) (k : Int) : Option (Int × (List Int) × (List Int)) :=
  bif (op == (5 : Int)) then
    bindF (f111 (a.1, a.2) k) fun r1 =>
    some (r1.1, r1.2.1, r1.2.2)
  else
    bif (op == (7 : Int)) then
      bindF (f113 (a.1, a.2)) fun r2 =>
      some (r2.1, r2.2.1, r2.2.2)
    else
      bif (op == (8 : Int)) then
        bindF (f175 (a.1, a.2) k) fun r3 =>
        some (r3.1, r3.2.1, r3.2.2)
      else
        bif (op == (9 : Int)) then
          bindF (f177 (a.1, a.2)) fun r4 =>
          bindF (f176 r4.1 r4.2) fun r5 =>
          some (r5.1, r5.2.1, r5.2.2)
        else
          bif (op == (10 : Int)) then
            bindF (f178 (a.1, a.2)) fun r6 =>
            bindF (f176 r6.1 r6.2) fun r7 =>
            some (r7.1, r7.2.1, r7.2.2)
          else
            bif (op == (11 : Int)) then
              bindF (f179 k (a.1, a.2)) fun r8 =>
              some (r8.1, r8.2.1, r8.2.2)
            else
              bif (op == (13 : Int)) then
                bindF (f156 (a.1, a.2) k) fun r9 =>
                some (r9.1, r9.2.1, r9.2.2.1)
              else
                bindF (f118 (a.1, a.2) ([(List.length a.2 : Int)])) fun r10 =>
                some (r10.1, r10.2.1, r10.2.2)
def C139 : Con where
  X := Int × ((List Int) × (List Int)) × Int
  Y := Int × (List Int) × (List Int)
  e := 0
  args x := [.dat (.int .i64) x.1, .dat (.p (.sl (.int .i64)) (.sl (.int .i64))) x.2.1, .dat (.int .i64) x.2.2]
  hin x := []
  F x := f139 x.1 x.2.1 x.2.2
  ret y := [.raw true [(.osl 0), (.osl 1)], .dat (.int .i64) y.1]
  hout y := [(0, .arr 3 (.int .i64) y.2.1), (1, .arr 23 (.int .i64) y.2.2)]
  nout := 2
theorem C139_vc (op : Int) (a : (List Int) × (List Int)) (k : Int) (y : Int × (List Int) × (List Int)) (hF : f139 op a k = some y) : vc Tryz.prog tab Tryz.f139.ntmps 0 (match Tryz.f139.body with | some c => c | none => .skip) (retK tab C139 Tryz.f139.results.toList y) (C139.shIn (op, a, k)).st := by
  unfold f139 at hF
  refine Or.inl ?_
  refine Or.inl ?_
  refine Or.inl ?_
  refine Or.inl ?_
  refine condI hF (fun hF => ?_) (fun hF => ?_)
  · refine Or.inl ?_
    obtain ⟨r1, hr1, hF⟩ := bindE hF
    refine Or.inl (And.intro f111_in (callV0 (callI C111 ((a.1, a.2), k) r1 [] false C111_holds hr1 rfl rfl ?_)))
    refine (And.intro rfl (And.intro rfl (And.intro rfl (And.intro (fun h => nomatch h) (And.intro rfl (And.intro rfl (And.intro trivial (And.intro trivial ?_))))))))
    refine Or.inl ?_
    have hy := someE hF
    subst hy
    refine And.intro rfl (Exists.intro [] (Exists.intro [] (Exists.intro [] (Exists.intro [] (Exists.intro [(0, some 2), (1, some 3)] (And.intro rfl (And.intro rfl (And.intro (And.intro rfl trivial) (And.intro rfl (And.intro rfl trivial))))))))))
  · refine Or.inl ?_
    refine condI hF (fun hF => ?_) (fun hF => ?_)
    · refine Or.inl ?_
      obtain ⟨r2, hr2, hF⟩ := bindE hF
      refine Or.inl (And.intro f113_in (callV0 (callI C113 (a.1, a.2) r2 [] false C113_holds hr2 rfl rfl ?_)))
      refine (And.intro rfl (And.intro rfl (And.intro (fun h => nomatch h) (And.intro rfl (And.intro rfl (And.intro trivial (And.intro trivial ?_)))))))
      refine Or.inl ?_
      have hy := someE hF
      subst hy
      refine And.intro rfl (Exists.intro [] (Exists.intro [] (Exists.intro [] (Exists.intro [] (Exists.intro [(0, some 2), (1, some 3)] (And.intro rfl (And.intro rfl (And.intro (And.intro rfl trivial) (And.intro rfl (And.intro rfl trivial))))))))))
    · refine Or.inl ?_
      refine condI hF (fun hF => ?_) (fun hF => ?_)
      · refine Or.inl ?_
        obtain ⟨r3, hr3, hF⟩ := bindE hF
        refine Or.inl (And.intro f175_in (callV0 (callI C175 ((a.1, a.2), k) r3 [] false C175_holds hr3 rfl rfl ?_)))
        refine (And.intro rfl (And.intro rfl (And.intro rfl (And.intro (fun h => nomatch h) (And.intro rfl (And.intro rfl (And.intro trivial (And.intro trivial ?_))))))))
        refine Or.inl ?_
        have hy := someE hF
        subst hy
        refine And.intro rfl (Exists.intro [] (Exists.intro [] (Exists.intro [] (Exists.intro [] (Exists.intro [(0, some 2), (1, some 3)] (And.intro rfl (And.intro rfl (And.intro (And.intro rfl trivial) (And.intro rfl (And.intro rfl trivial))))))))))
      · refine Or.inl ?_
        refine condI hF (fun hF => ?_) (fun hF => ?_)
        · refine Or.inl ?_
          obtain ⟨r4, hr4, hF⟩ := bindE hF
          refine Or.inl (And.intro f177_in (callV0 (callI C177 (a.1, a.2) r4 [] false C177_holds hr4 rfl rfl ?_)))
          refine (And.intro rfl (And.intro rfl (And.intro (fun h => nomatch h) (And.intro rfl (And.intro rfl (And.intro trivial (And.intro trivial ?_)))))))
          obtain ⟨r5, hr5, hF⟩ := bindE hF
          refine Or.inl (And.intro f176_in (callV0 (callI C176 (r4.1, r4.2) r5 [] false C176_holds hr5 rfl rfl ?_)))
          refine (And.intro rfl (And.intro rfl (And.intro (fun h => nomatch h) (And.intro rfl (And.intro rfl (And.intro trivial (And.intro trivial ?_)))))))
          refine Or.inl ?_
          have hy := someE hF
          subst hy
          refine And.intro rfl (Exists.intro [] (Exists.intro [] (Exists.intro [] (Exists.intro [] (Exists.intro [(0, some 2), (1, some 3)] (And.intro rfl (And.intro rfl (And.intro (And.intro rfl trivial) (And.intro rfl (And.intro rfl trivial))))))))))
        · refine Or.inl ?_
          refine condI hF (fun hF => ?_) (fun hF => ?_)
          · refine Or.inl ?_
            obtain ⟨r6, hr6, hF⟩ := bindE hF
            refine Or.inl (And.intro f178_in (callV0 (callI C178 (a.1, a.2) r6 [] false C178_holds hr6 rfl rfl ?_)))
            refine (And.intro rfl (And.intro rfl (And.intro (fun h => nomatch h) (And.intro rfl (And.intro rfl (And.intro trivial (And.intro trivial ?_)))))))
            obtain ⟨r7, hr7, hF⟩ := bindE hF
            refine Or.inl (And.intro f176_in (callV0 (callI C176 (r6.1, r6.2) r7 [] false C176_holds hr7 rfl rfl ?_)))
            refine (And.intro rfl (And.intro rfl (And.intro (fun h => nomatch h) (And.intro rfl (And.intro rfl (And.intro trivial (And.intro trivial ?_)))))))
            refine Or.inl ?_
            have hy := someE hF
            subst hy
            refine And.intro rfl (Exists.intro [] (Exists.intro [] (Exists.intro [] (Exists.intro [] (Exists.intro [(0, some 2), (1, some 3)] (And.intro rfl (And.intro rfl (And.intro (And.intro rfl trivial) (And.intro rfl (And.intro rfl trivial))))))))))
          · refine Or.inl ?_
            refine condI hF (fun hF => ?_) (fun hF => ?_)
            · refine Or.inl ?_
              obtain ⟨r8, hr8, hF⟩ := bindE hF
              refine Or.inl (And.intro f179_in (callV0 (callI C179 (k, (a.1, a.2)) r8 [] false C179_holds hr8 rfl rfl ?_)))
              refine (And.intro rfl (And.intro rfl (And.intro rfl (And.intro (fun h => nomatch h) (And.intro rfl (And.intro rfl (And.intro trivial (And.intro trivial ?_))))))))
              refine Or.inl ?_
              have hy := someE hF
              subst hy
              refine And.intro rfl (Exists.intro [] (Exists.intro [] (Exists.intro [] (Exists.intro [] (Exists.intro [(0, some 2), (1, some 3)] (And.intro rfl (And.intro rfl (And.intro (And.intro rfl trivial) (And.intro rfl (And.intro rfl trivial))))))))))
            · refine Or.inl ?_
              refine condI hF (fun hF => ?_) (fun hF => ?_)
              · refine Or.inl ?_
                obtain ⟨r9, hr9, hF⟩ := bindE hF
                refine Or.inl (And.intro f156_in (callV0 (callI C156 ((a.1, a.2), k) r9 [] false C156_holds hr9 rfl rfl ?_)))
                refine (And.intro rfl (And.intro rfl (And.intro rfl (And.intro (fun h => nomatch h) (And.intro rfl (And.intro rfl (And.intro trivial (And.intro trivial ?_))))))))
                refine Or.inl ?_
                refine Or.inl ?_
                refine Or.inl ?_
                have hy := someE hF
                subst hy
                refine And.intro rfl (Exists.intro [] (Exists.intro [] (Exists.intro [] (Exists.intro [] (Exists.intro [(0, some 2), (1, some 3)] (And.intro rfl (And.intro rfl (And.intro (And.intro rfl trivial) (And.intro rfl (And.intro rfl trivial))))))))))
              · refine Or.inl ?_
                refine Or.inl ?_
                obtain ⟨r10, hr10, hF⟩ := bindE hF
                refine Or.inl (And.intro f118_in (callV0 (callI C118 ((a.1, a.2), [(List.length a.2 : Int)]) r10 [] true C118_holds hr10 rfl rfl ?_)))
                refine (And.intro rfl (And.intro rfl (And.intro rfl (And.intro (fun _ => rfl) (And.intro rfl (And.intro rfl (And.intro trivial (And.intro trivial ?_))))))))
                refine Or.inl ?_
                have hy := someE hF
                subst hy
                refine And.intro rfl (Exists.intro [] (Exists.intro [] (Exists.intro [] (Exists.intro [] (Exists.intro [(0, some 3), (1, some 4)] (And.intro rfl (And.intro rfl (And.intro (And.intro rfl trivial) (And.intro rfl (And.intro rfl trivial))))))))))
theorem C139_holds : C139.Holds Tryz.prog 139 := holds_of_vc tab_ok mixed (fn := Tryz.f139) (by kernel_rfl) rfl C139 (fun x y hF => C139_vc x.1 x.2.1 x.2.2 y hF)
theorem f139_in : ∃ fn, Tryz.prog.funcs[139]? = some fn ∧ fn.body.isSome = true ∧ (fn.name == "runtime.NumGoroutine") = false := ⟨Tryz.f139, by kernel_rfl, by kernel_rfl, by kernel_rfl⟩
end Go.Proofs
namespace Go.Proofs
open Go.AM
-- (*carousel/tape.Tape).Do
def f105_j1 (t_l : List (Int × Int × Int × Int × (List Int) × (List Int))) (op : Int) (a : Int) (b : Int) : Option (Sum (List (Int × Int × Int × Int × (List Int) × (List Int))) (Int × (List (Int × Int × Int × Int × (List Int) × (List Int))))) :=
  bif (decide ((List.length t_l : Int) ≥ (512 : Int))) then
    some (Sum.inr ((2 : Int), t_l))
  else
    bif (decide (op < (2 : Int))) then
      some (Sum.inr ((1 : Int), t_l))
    else
      bif (decide (op > (14 : Int))) then
        some (Sum.inr ((1 : Int), t_l))
      else
        bindF (f84 t_l a) fun r5 =>
        bif (!r5.1) then
          some (Sum.inr ((1 : Int), r5.2))
        else
          bindF (f136 op) fun r6 =>
          bif r6 then
            bindF (f84 r5.2 b) fun r7 =>
            bif (!r7.1) then
              some (Sum.inr ((1 : Int), r7.2))
            else
              some (Sum.inl r7.2)
          else
            some (Sum.inl r5.2)
def f105_j2 (op : Int) (k : Int) : Option Int :=
  bindF (f137 op) fun r10 =>
  bif r10 then
    some k
  else
    some (0 : Int)
def f105_j3 (op : Int) (a : Int) (b : Int) (k : Int) (z4a : List (Int × Int × Int × Int × (List Int) × (List Int))) : Option (Int × Int × (List Int) × (List Int)) :=
  bindF (f136 op) fun r13 =>
  bif r13 then
    guardF (0 ≤ a ∧ a < (List.length z4a : Int)) <|
    guardF (0 ≤ b ∧ b < (List.length z4a : Int)) <|
    bindF (f138 op ((((((rd (Ty.z (.p (.int .i64) (.p (.int .i64) (.p (.int .i64) (.p (.int .i64) (.p (.sl (.int .i64)) (.sl (.int .i64)))))))) z4a a).2).2).2).2).1, (((((rd (Ty.z (.p (.int .i64) (.p (.int .i64) (.p (.int .i64) (.p (.int .i64) (.p (.sl (.int .i64)) (.sl (.int .i64)))))))) z4a a).2).2).2).2).2) ((((((rd (Ty.z (.p (.int .i64) (.p (.int .i64) (.p (.int .i64) (.p (.int .i64) (.p (.sl (.int .i64)) (.sl (.int .i64)))))))) z4a b).2).2).2).2).1, (((((rd (Ty.z (.p (.int .i64) (.p (.int .i64) (.p (.int .i64) (.p (.int .i64) (.p (.sl (.int .i64)) (.sl (.int .i64)))))))) z4a b).2).2).2).2).2) k) fun q11_18 =>
    some (q11_18.1, b, q11_18.2.1, q11_18.2.2)
  else
    guardF (0 ≤ a ∧ a < (List.length z4a : Int)) <|
    bindF (f139 op ((((((rd (Ty.z (.p (.int .i64) (.p (.int .i64) (.p (.int .i64) (.p (.int .i64) (.p (.sl (.int .i64)) (.sl (.int .i64)))))))) z4a a).2).2).2).2).1, (((((rd (Ty.z (.p (.int .i64) (.p (.int .i64) (.p (.int .i64) (.p (.int .i64) (.p (.sl (.int .i64)) (.sl (.int .i64)))))))) z4a a).2).2).2).2).2) k) fun q11_24 =>
    some (q11_24.1, (-1 : Int), q11_24.2.1, q11_24.2.2)
def f105 (t_l : List (Int × Int × Int × Int × (List Int) × (List Int))) (op : Int) (a : Int) (b : Int) (k : Int) : Option (Int × Int × (List (Int × Int × Int × Int × (List Int) × (List Int)))) :=
  bindF (f105_j1 t_l op a b) fun z4 =>
  sumF z4 (fun z4a =>
    bindF (f105_j2 op k) fun z9 =>
    bindF (f105_j3 op a b k z4a) fun z12 =>
    bif (z12.1 != (0 : Int)) then
      some ((0 : Int), z12.1, z4a)
    else
      bindF (f104 z4a (op, a, z12.2.1, z9, z12.2.2.1, z12.2.2.2)) fun r14 =>
      some (r14.1, (0 : Int), r14.2)) (fun z4b =>
    some ((0 : Int), z4b.1, z4b.2))
def C105 : Con where
  X := (List (Int × Int × Int × Int × (List Int) × (List Int))) × Int × Int × Int × Int
  Y := Int × Int × (List (Int × Int × Int × Int × (List Int) × (List Int)))
  e := 2
  args x := [.raw false [(.ptr 0 0)], .dat (.int .i64) x.2.1, .dat (.int .i64) x.2.2.1, .dat (.int .i64) x.2.2.2.1, .dat (.int .i64) x.2.2.2.2]
  hin x := [(0, .cells [(.osl 1)]), (1, .arr 132 (.p (.int .i64) (.p (.int .i64) (.p (.int .i64) (.p (.int .i64) (.p (.sl (.int .i64)) (.sl (.int .i64))))))) x.1)]
  F x := f105 x.1 x.2.1 x.2.2.1 x.2.2.2.1 x.2.2.2.2
  ret y := [.dat (.int .i64) y.1, .dat (.int .i64) y.2.1]
  hout y := [(0, .cells [(.osl 2)]), (2, .arr 132 (.p (.int .i64) (.p (.int .i64) (.p (.int .i64) (.p (.int .i64) (.p (.sl (.int .i64)) (.sl (.int .i64))))))) y.2.2)]
  nout := 3
theorem C105_vc (t_l : List (Int × Int × Int × Int × (List Int) × (List Int))) (op : Int) (a : Int) (b : Int) (k : Int) (y : Int × Int × (List (Int × Int × Int × Int × (List Int) × (List Int)))) (hF : f105 t_l op a b k = some y) : vc Tryz.prog tab Tryz.f105.ntmps 2 (match Tryz.f105.body with | some c => c | none => .skip) (retK tab C105 Tryz.f105.results.toList y) (C105.shIn (t_l, op, a, b, k)).st := by
  unfold f105 at hF
  refine Or.inl ?_
  obtain ⟨z4, hz4, hF⟩ := bindE hF
  refine Or.inr ⟨Sum.elim (fun z4a => [(0, ⟨[(0, .raw false [(.ptr 0 0)]), (1, .dat (.int .i64) op), (2, .dat (.int .i64) a), (3, .dat (.int .i64) b), (4, .dat (.int .i64) k)], [(0, .cells [(.osl 1)]), (1, .arr 132 (.p (.int .i64) (.p (.int .i64) (.p (.int .i64) (.p (.int .i64) (.p (.sl (.int .i64)) (.sl (.int .i64))))))) z4a)], 2⟩)]) (fun z4b => [(1, ⟨[(10, .dat (.int .i64) (0 : Int)), (11, .dat (.int .i64) z4b.1)], [(0, .cells [(.osl 1)]), (1, .arr 132 (.p (.int .i64) (.p (.int .i64) (.p (.int .i64) (.p (.int .i64) (.p (.sl (.int .i64)) (.sl (.int .i64))))))) z4b.2)], 2⟩)]) z4, ?_, ?_⟩
  · have hF := hz4
    clear hz4
    unfold f105_j1 at hF
    refine Or.inl ?_
    refine condI hF (fun hF => ?_) (fun hF => ?_)
    · refine Or.inl ?_
      have hz := someE hF
      subst hz
      refine Exists.intro [] (Exists.intro [] (Exists.intro [] (Exists.intro [] (Exists.intro [(0, some 0), (1, some 1)] (And.intro rfl (And.intro rfl (And.intro rfl (And.intro trivial (And.intro rfl (And.intro rfl trivial))))))))))
    · refine Or.inl ?_
      refine condN hF (fun hF => ?_) (fun hF => ?_)
      · refine gdYF ?_
        refine condF ?_
        refine condN hF (fun hF => ?_) (fun hF => ?_)
        · refine gdYF ?_
          refine gdYF ?_
          obtain ⟨r5, hr5, hF⟩ := bindE hF
          refine Or.inl (And.intro f84_in (callV0 (callI C84 (t_l, a) r5 [(0, some 0), (1, some 1)] false C84_holds hr5 rfl rfl ?_)))
          refine (And.intro rfl (And.intro (fun h => nomatch h) (And.intro rfl (And.intro rfl (And.intro (And.intro rfl trivial) (And.intro (And.intro rfl (And.intro rfl trivial)) ?_))))))
          refine gdYF ?_
          refine condF ?_
          refine condN hF (fun hF => ?_) (fun hF => ?_)
          · refine gdYF ?_
            obtain ⟨r6, hr6, hF⟩ := bindE hF
            refine Or.inl (And.intro f136_in (callV0 (callI C136 op r6 [] false C136_holds hr6 rfl rfl ?_)))
            refine (And.intro rfl (And.intro (fun h => nomatch h) (And.intro rfl (And.intro rfl (And.intro trivial (And.intro trivial ?_))))))
            refine gdYF ?_
            refine condI hF (fun hF => ?_) (fun hF => ?_)
            · refine gdYT ?_
              refine gdYT ?_
              obtain ⟨r7, hr7, hF⟩ := bindE hF
              refine Or.inl (And.intro f84_in (callV0 (callI C84 (r5.2, b) r7 [(0, some 0), (1, some 1)] false C84_holds hr7 rfl rfl ?_)))
              refine (And.intro rfl (And.intro (fun h => nomatch h) (And.intro rfl (And.intro rfl (And.intro (And.intro rfl trivial) (And.intro (And.intro rfl (And.intro rfl trivial)) ?_))))))
              refine gdYT ?_
              refine gdYF ?_
              refine condT ?_
              refine condF ?_
              refine condI hF (fun hF => ?_) (fun hF => ?_)
              · refine Or.inl ?_
                have hz := someE hF
                subst hz
                refine Exists.intro [] (Exists.intro [] (Exists.intro [] (Exists.intro [] (Exists.intro [(0, some 0), (1, some 1)] (And.intro rfl (And.intro rfl (And.intro rfl (And.intro trivial (And.intro rfl (And.intro rfl trivial))))))))))
              · have hz := someE hF
                subst hz
                refine Exists.intro [] (Exists.intro [] (Exists.intro [] (Exists.intro [] (Exists.intro [(0, some 0), (1, some 1)] (And.intro rfl (And.intro rfl (And.intro rfl (And.intro rfl (And.intro rfl (And.intro (And.intro rfl trivial) (And.intro rfl (And.intro rfl trivial))))))))))))
            · refine gdNT ?_
              refine gdNT ?_
              refine gdNT ?_
              refine gdYF ?_
              refine condF ?_
              refine condF ?_
              refine condF ?_
              have hz := someE hF
              subst hz
              refine Exists.intro [] (Exists.intro [] (Exists.intro [] (Exists.intro [] (Exists.intro [(0, some 0), (1, some 1)] (And.intro rfl (And.intro rfl (And.intro rfl (And.intro rfl (And.intro rfl (And.intro (And.intro rfl trivial) (And.intro rfl (And.intro rfl trivial))))))))))))
          · refine gdNF ?_
            refine gdNF ?_
            refine gdNF ?_
            refine condT ?_
            refine condT ?_
            refine Or.inl ?_
            have hz := someE hF
            subst hz
            refine Exists.intro [] (Exists.intro [] (Exists.intro [] (Exists.intro [] (Exists.intro [(0, some 0), (1, some 1)] (And.intro rfl (And.intro rfl (And.intro rfl (And.intro trivial (And.intro rfl (And.intro rfl trivial))))))))))
        · refine gdNF ?_
          refine gdNF ?_
          refine gdNF ?_
          refine condT ?_
          refine gdNF ?_
          refine gdNF ?_
          refine gdNF ?_
          refine gdNF ?_
          refine condT ?_
          refine condT ?_
          refine Or.inl ?_
          have hz := someE hF
          subst hz
          refine Exists.intro [] (Exists.intro [] (Exists.intro [] (Exists.intro [] (Exists.intro [(0, some 0), (1, some 1)] (And.intro rfl (And.intro rfl (And.intro rfl (And.intro trivial (And.intro rfl (And.intro rfl trivial))))))))))
      · refine gdNF ?_
        refine condT ?_
        refine gdNF ?_
        refine gdNF ?_
        refine gdNF ?_
        refine gdNF ?_
        refine condT ?_
        refine gdNF ?_
        refine gdNF ?_
        refine gdNF ?_
        refine gdNF ?_
        refine condT ?_
        refine condT ?_
        refine Or.inl ?_
        have hz := someE hF
        subst hz
        refine Exists.intro [] (Exists.intro [] (Exists.intro [] (Exists.intro [] (Exists.intro [(0, some 0), (1, some 1)] (And.intro rfl (And.intro rfl (And.intro rfl (And.intro trivial (And.intro rfl (And.intro rfl trivial))))))))))
  · rcases z4 with z4a | z4b
    · dsimp only [sumF] at hF
      refine And.intro ?_ trivial
      refine Or.inl ?_
      refine Or.inl ?_
      obtain ⟨z9, hz9, hF⟩ := bindE hF
      refine Or.inr ⟨[(0, ⟨[(0, .raw false [(.ptr 0 0)]), (1, .dat (.int .i64) op), (2, .dat (.int .i64) a), (3, .dat (.int .i64) b), (4, .dat (.int .i64) k), (12, .raw false [(.ptr 2 0)])], [(0, .cells [(.osl 1)]), (1, .arr 132 (.p (.int .i64) (.p (.int .i64) (.p (.int .i64) (.p (.int .i64) (.p (.sl (.int .i64)) (.sl (.int .i64))))))) z4a), (2, .cells [(.d (.int .i64) op), (.d (.int .i64) a), (.d (.int .i64) (-1 : Int)), (.d (.int .i64) z9), (.c (.slice none 0 0)), (.c (.slice none 0 0))])], 3⟩)], ?_, ?_⟩
      · have hF := hz9
        clear hz9
        unfold f105_j2 at hF
        refine Or.inl ?_
        obtain ⟨r10, hr10, hF⟩ := bindE hF
        refine Or.inl (And.intro f137_in (callV0 (callI C137 op r10 [] false C137_holds hr10 rfl rfl ?_)))
        refine (And.intro rfl (And.intro (fun h => nomatch h) (And.intro rfl (And.intro rfl (And.intro trivial (And.intro trivial ?_))))))
        refine condI hF (fun hF => ?_) (fun hF => ?_)
        · refine Or.inl ?_
          have hz := someE hF
          subst hz
          refine Exists.intro [] (Exists.intro [] (Exists.intro [] (Exists.intro [] (Exists.intro [(0, some 0), (1, some 1), (2, some 2)] (And.intro rfl (And.intro rfl (And.intro rfl (And.intro rfl (And.intro rfl (And.intro (And.intro rfl (And.intro rfl trivial)) (And.intro rfl (And.intro rfl (And.intro rfl trivial)))))))))))))
        · have hz := someE hF
          subst hz
          refine Exists.intro [] (Exists.intro [] (Exists.intro [] (Exists.intro [] (Exists.intro [(0, some 0), (1, some 1), (2, some 2)] (And.intro rfl (And.intro rfl (And.intro rfl (And.intro rfl (And.intro rfl (And.intro (And.intro rfl (And.intro rfl trivial)) (And.intro rfl (And.intro rfl (And.intro rfl trivial)))))))))))))
      · refine And.intro ?_ trivial
        refine Or.inl ?_
        obtain ⟨z12, hz12, hF⟩ := bindE hF
        refine Or.inr ⟨[(0, ⟨[(0, .raw false [(.ptr 0 0)]), (12, .raw false [(.ptr 2 0)]), (13, .dat (.int .i64) z12.1)], [(0, .cells [(.osl 1)]), (1, .arr 132 (.p (.int .i64) (.p (.int .i64) (.p (.int .i64) (.p (.int .i64) (.p (.sl (.int .i64)) (.sl (.int .i64))))))) z4a), (2, .cells [(.d (.int .i64) op), (.d (.int .i64) a), (.d (.int .i64) z12.2.1), (.d (.int .i64) z9), (.osl 3), (.osl 4)]), (3, .arr 3 (.int .i64) z12.2.2.1), (4, .arr 23 (.int .i64) z12.2.2.2)], 5⟩)], ?_, ?_⟩
        · have hF := hz12
          clear hz12
          unfold f105_j3 at hF
          refine Or.inl ?_
          obtain ⟨r13, hr13, hF⟩ := bindE hF
          refine Or.inl (And.intro f136_in (callV0 (callI C136 op r13 [] false C136_holds hr13 rfl rfl ?_)))
          refine (And.intro rfl (And.intro (fun h => nomatch h) (And.intro rfl (And.intro rfl (And.intro trivial (And.intro trivial ?_))))))
          refine condI hF (fun hF => ?_) (fun hF => ?_)
          · refine Or.inl ?_
            refine Or.inl ?_
            refine Exists.intro (.take 0 (.take 1 (.take 2 (.take 3 (.take 4 (.take 5 (.take 6 (.take 7 (.take 8 (.take 9 (.take 10 (.take 11 (.take 12 (.take 13 (.take 14 (.take 15 (.take 16 (.take 17 (.alt 18 (.take 19 (.take 20 (.take 21 (.take 22 (.alt 23 (.take 24 .done) .done))))) .done))))))))))))))))))) (Exists.intro [] (Exists.intro [] (And.intro rfl ?_)))
            refine guardI hF (fun hF => ?_)
            refine guardI hF (fun hF => ?_)
            refine And.intro trivial ?_
            obtain ⟨q11_18, hq11_18, hF⟩ := bindE hF
            refine Or.inl (And.intro f138_in (callV0 (callI C138 (op, ((((((rd (Ty.z (.p (.int .i64) (.p (.int .i64) (.p (.int .i64) (.p (.int .i64) (.p (.sl (.int .i64)) (.sl (.int .i64)))))))) z4a a).2).2).2).2).1, (((((rd (Ty.z (.p (.int .i64) (.p (.int .i64) (.p (.int .i64) (.p (.int .i64) (.p (.sl (.int .i64)) (.sl (.int .i64)))))))) z4a a).2).2).2).2).2), ((((((rd (Ty.z (.p (.int .i64) (.p (.int .i64) (.p (.int .i64) (.p (.int .i64) (.p (.sl (.int .i64)) (.sl (.int .i64)))))))) z4a b).2).2).2).2).1, (((((rd (Ty.z (.p (.int .i64) (.p (.int .i64) (.p (.int .i64) (.p (.int .i64) (.p (.sl (.int .i64)) (.sl (.int .i64)))))))) z4a b).2).2).2).2).2), k) q11_18 [] false C138_holds hq11_18 rfl rfl ?_)))
            refine (And.intro rfl (And.intro rfl (And.intro rfl (And.intro rfl (And.intro rfl (And.intro rfl (And.intro (fun h => nomatch h) (And.intro rfl (And.intro rfl (And.intro trivial (And.intro trivial ?_)))))))))))
            refine And.intro trivial ?_
            refine Or.inl ?_
            have hz := someE hF
            subst hz
            refine Exists.intro [] (Exists.intro [] (Exists.intro [] (Exists.intro [] (Exists.intro [(0, some 0), (1, some 1), (2, some 2), (3, some 3), (4, some 4)] (And.intro rfl (And.intro rfl (And.intro (And.intro rfl (And.intro rfl trivial)) (And.intro rfl (And.intro rfl (And.intro rfl (And.intro rfl (And.intro rfl trivial))))))))))))
          · refine guardI hF (fun hF => ?_)
            obtain ⟨q11_24, hq11_24, hF⟩ := bindE hF
            refine Or.inl (And.intro f139_in (callV0 (callI C139 (op, ((((((rd (Ty.z (.p (.int .i64) (.p (.int .i64) (.p (.int .i64) (.p (.int .i64) (.p (.sl (.int .i64)) (.sl (.int .i64)))))))) z4a a).2).2).2).2).1, (((((rd (Ty.z (.p (.int .i64) (.p (.int .i64) (.p (.int .i64) (.p (.int .i64) (.p (.sl (.int .i64)) (.sl (.int .i64)))))))) z4a a).2).2).2).2).2), k) q11_24 [] false C139_holds hq11_24 rfl rfl ?_)))
            refine (And.intro rfl (And.intro rfl (And.intro rfl (And.intro rfl (And.intro (fun h => nomatch h) (And.intro rfl (And.intro rfl (And.intro trivial (And.intro trivial ?_)))))))))
            refine Or.inl ?_
            have hz := someE hF
            subst hz
            refine Exists.intro [] (Exists.intro [] (Exists.intro [] (Exists.intro [] (Exists.intro [(0, some 0), (1, some 1), (2, some 2), (3, some 3), (4, some 4)] (And.intro rfl (And.intro rfl (And.intro (And.intro rfl (And.intro rfl trivial)) (And.intro rfl (And.intro rfl (And.intro rfl (And.intro rfl (And.intro rfl trivial))))))))))))
        · refine And.intro ?_ trivial
          refine Or.inl ?_
          refine Or.inl ?_
          refine condI hF (fun hF => ?_) (fun hF => ?_)
          · refine Or.inl ?_
            have hy := someE hF
            subst hy
            refine And.intro rfl (Exists.intro [] (Exists.intro [] (Exists.intro [] (Exists.intro [] (Exists.intro [(0, some 0), (2, some 1)] (And.intro rfl (And.intro rfl (And.intro rfl (And.intro trivial (And.intro rfl (And.intro rfl trivial)))))))))))
          · refine Or.inl ?_
            obtain ⟨r14, hr14, hF⟩ := bindE hF
            refine Or.inl (And.intro f104_in (callV0 (callI C104 (z4a, (op, a, z12.2.1, z9, z12.2.2.1, z12.2.2.2)) r14 [(0, some 0), (1, some 1)] false C104_holds hr14 rfl rfl ?_)))
            refine (And.intro rfl (And.intro rfl (And.intro (fun h => nomatch h) (And.intro rfl (And.intro rfl (And.intro (And.intro rfl trivial) (And.intro (And.intro rfl (And.intro rfl trivial)) ?_)))))))
            have hy := someE hF
            subst hy
            refine And.intro rfl (Exists.intro [] (Exists.intro [] (Exists.intro [] (Exists.intro [] (Exists.intro [(0, some 0), (2, some 7)] (And.intro rfl (And.intro rfl (And.intro rfl (And.intro trivial (And.intro rfl (And.intro rfl trivial)))))))))))
    · dsimp only [sumF] at hF
      refine And.intro ?_ trivial
      have hy := someE hF
      subst hy
      refine And.intro rfl (Exists.intro [] (Exists.intro [] (Exists.intro [] (Exists.intro [] (Exists.intro [(0, some 0), (2, some 1)] (And.intro rfl (And.intro rfl (And.intro rfl (And.intro trivial (And.intro rfl (And.intro rfl trivial)))))))))))
theorem C105_holds : C105.Holds Tryz.prog 105 := holds_of_vc tab_ok mixed (fn := Tryz.f105) (by kernel_rfl) rfl C105 (fun x y hF => C105_vc x.1 x.2.1 x.2.2.1 x.2.2.2.1 x.2.2.2.2 y hF)
theorem f105_in : ∃ fn, Tryz.prog.funcs[105]? = some fn ∧ fn.body.isSome = true ∧ (fn.name == "runtime.NumGoroutine") = false := ⟨Tryz.f105, by kernel_rfl, by kernel_rfl, by kernel_rfl⟩
end Go.Proofs
namespace Go.Proofs
open Go.AM
-- (*carousel/model.runner).do
def f75 (r_t_l : List (Int × Int × Int × Int × (List Int) × (List Int))) (r_e : Int) (r_p : List Int) (r_leafs : List Int) (op : Int) (a : Int) (b : Int) (k : Int) : Option (Int × Int × (List Int) × (List Int) × (List (Int × Int × Int × Int × (List Int) × (List Int)))) :=
  bif (r_e != (0 : Int)) then
    some ((0 : Int), r_e, r_p, r_leafs, r_t_l)
  else
    bindF (f105 r_t_l op a b k) fun r1 =>
    some (r1.1, r1.2.1, r_p, r_leafs, r1.2.2)
def C75 : Con where
  X := (List (Int × Int × Int × Int × (List Int) × (List Int))) × Int × (List Int) × (List Int) × Int × Int × Int × Int
  Y := Int × Int × (List Int) × (List Int) × (List (Int × Int × Int × Int × (List Int) × (List Int)))
  e := 4
  args x := [.raw false [(.ptr 0 0)], .dat (.int .i64) x.2.2.2.2.1, .dat (.int .i64) x.2.2.2.2.2.1, .dat (.int .i64) x.2.2.2.2.2.2.1, .dat (.int .i64) x.2.2.2.2.2.2.2]
  hin x := [(0, .cells [(.ptr 1 0), (.d (.int .i64) x.2.1), (.d (.sl (.int .i64)) x.2.2.1), (.osl 3)]), (1, .cells [(.osl 2)]), (2, .arr 132 (.p (.int .i64) (.p (.int .i64) (.p (.int .i64) (.p (.int .i64) (.p (.sl (.int .i64)) (.sl (.int .i64))))))) x.1), (3, .arr 3 (.int .i64) x.2.2.2.1)]
  F x := f75 x.1 x.2.1 x.2.2.1 x.2.2.2.1 x.2.2.2.2.1 x.2.2.2.2.2.1 x.2.2.2.2.2.2.1 x.2.2.2.2.2.2.2
  ret y := [.dat (.int .i64) y.1]
  hout y := [(0, .cells [(.ptr 1 0), (.d (.int .i64) y.2.1), (.d (.sl (.int .i64)) y.2.2.1), (.osl 3)]), (1, .cells [(.osl 4)]), (3, .arr 3 (.int .i64) y.2.2.2.1), (4, .arr 132 (.p (.int .i64) (.p (.int .i64) (.p (.int .i64) (.p (.int .i64) (.p (.sl (.int .i64)) (.sl (.int .i64))))))) y.2.2.2.2)]
  nout := 5
theorem C75_vc (r_t_l : List (Int × Int × Int × Int × (List Int) × (List Int))) (r_e : Int) (r_p : List Int) (r_leafs : List Int) (op : Int) (a : Int) (b : Int) (k : Int) (y : Int × Int × (List Int) × (List Int) × (List (Int × Int × Int × Int × (List Int) × (List Int)))) (hF : f75 r_t_l r_e r_p r_leafs op a b k = some y) : vc Tryz.prog tab Tryz.f75.ntmps 4 (match Tryz.f75.body with | some c => c | none => .skip) (retK tab C75 Tryz.f75.results.toList y) (C75.shIn (r_t_l, r_e, r_p, r_leafs, op, a, b, k)).st := by
  unfold f75 at hF
  refine Or.inl ?_
  refine Or.inl ?_
  refine Or.inl ?_
  refine condI hF (fun hF => ?_) (fun hF => ?_)
  · refine Or.inl ?_
    have hy := someE hF
    subst hy
    refine And.intro rfl (Exists.intro [] (Exists.intro [] (Exists.intro [] (Exists.intro [] (Exists.intro [(0, some 0), (1, some 1), (3, some 3), (4, some 2)] (And.intro rfl (And.intro rfl (And.intro trivial (And.intro rfl (And.intro rfl (And.intro rfl (And.intro rfl trivial))))))))))))
  · refine Or.inl ?_
    obtain ⟨r1, hr1, hF⟩ := bindE hF
    refine Or.inl (And.intro f105_in (callV0 (callI C105 (r_t_l, op, a, b, k) r1 [(0, some 1), (1, some 2)] false C105_holds hr1 rfl rfl ?_)))
    refine (And.intro rfl (And.intro rfl (And.intro rfl (And.intro rfl (And.intro (fun h => nomatch h) (And.intro rfl (And.intro rfl (And.intro (And.intro rfl trivial) (And.intro (And.intro rfl (And.intro rfl trivial)) ?_)))))))))
    refine Or.inl ?_
    refine Or.inl ?_
    refine Or.inl ?_
    have hy := someE hF
    subst hy
    refine And.intro rfl (Exists.intro [] (Exists.intro [] (Exists.intro [] (Exists.intro [] (Exists.intro [(0, some 0), (1, some 1), (3, some 3), (4, some 6)] (And.intro rfl (And.intro rfl (And.intro trivial (And.intro rfl (And.intro rfl (And.intro rfl (And.intro rfl trivial))))))))))))
theorem C75_holds : C75.Holds Tryz.prog 75 := holds_of_vc tab_ok mixed (fn := Tryz.f75) (by kernel_rfl) rfl C75 (fun x y hF => C75_vc x.1 x.2.1 x.2.2.1 x.2.2.2.1 x.2.2.2.2.1 x.2.2.2.2.2.1 x.2.2.2.2.2.2.1 x.2.2.2.2.2.2.2 y hF)
theorem f75_in : ∃ fn, Tryz.prog.funcs[75]? = some fn ∧ fn.body.isSome = true ∧ (fn.name == "runtime.NumGoroutine") = false := ⟨Tryz.f75, by kernel_rfl, by kernel_rfl, by kernel_rfl⟩
end Go.Proofs
namespace Go.Proofs
open Go.AM
-- (*carousel/model.runner).layer
def f47_j1 (in_ : List Int) (x_ : Int) (r2 : Int × Int × Int × (List Int) × (List Int) × (List (Int × Int × Int × Int × (List Int) × (List Int)))) : Option (Int × Int × (List Int) × (List Int) × (List (Int × Int × Int × Int × (List Int) × (List Int)))) :=
  bif ((List.length in_ : Int) == (2 : Int)) then
    bindF (f75 r2.2.2.2.2.2 r2.2.2.1 r2.2.2.2.1 r2.2.2.2.2.1 (14 : Int) x_ (0 : Int) (0 : Int)) fun r5 =>
    some (r5.1, r5.2.1, r5.2.2.1, r5.2.2.2.1, r5.2.2.2.2)
  else
    some (x_, r2.2.2.1, r2.2.2.2.1, r2.2.2.2.2.1, r2.2.2.2.2.2)
def f47 (r_t_l : List (Int × Int × Int × Int × (List Int) × (List Int))) (r_e : Int) (r_p : List Int) (r_leafs : List Int) (l : ByteArray × Int × Int) (in_ : List Int) (x_ : Int) (ahead : Int) : Option (Int × Int × (List Int) × (List Int) × (List (Int × Int × Int × Int × (List Int) × (List Int)))) :=
  bindF (f71 (l.1, l.2.1, l.2.2) in_) fun r1 =>
  bindF (f74 r_t_l r_e r_p r_leafs r1) fun r2 =>
  bif (ByteArray.toList l.1 == ByteArray.toList (ByteArray.mk #[100, 101, 110, 115, 101])) then
    bindF (f47_j1 in_ x_ r2) fun z4 =>
    bindF (f75 z4.2.2.2.2 z4.2.1 z4.2.2.1 z4.2.2.2.1 (4 : Int) r2.1 z4.1 (0 : Int)) fun r6 =>
    bindF (f75 r6.2.2.2.2 r6.2.1 r6.2.2.1 r6.2.2.2.1 (8 : Int) r6.1 (0 : Int) (1 : Int)) fun r7 =>
    bindF (f75 r7.2.2.2.2 r7.2.1 r7.2.2.1 r7.2.2.2.1 (2 : Int) r7.1 r2.2.1 (0 : Int)) fun r8 =>
    some (r8.1, r8.2.1, r8.2.2.1, r8.2.2.2.1, r8.2.2.2.2)
  else
    bif (ByteArray.toList l.1 == ByteArray.toList (ByteArray.mk #[99, 111, 110, 118])) then
      bindF (f75 r2.2.2.2.2.2 r2.2.2.1 r2.2.2.2.1 r2.2.2.2.2.1 (12 : Int) x_ r2.1 (1 : Int)) fun r9 =>
      some (r9.1, r9.2.1, r9.2.2.1, r9.2.2.2.1, r9.2.2.2.2)
    else
      bif (ByteArray.toList l.1 == ByteArray.toList (ByteArray.mk #[112, 111, 111, 108])) then
        bindF (f75 r2.2.2.2.2.2 r2.2.2.1 r2.2.2.2.1 r2.2.2.2.2.1 (13 : Int) x_ (0 : Int) l.2.1) fun r10 =>
        some (r10.1, r10.2.1, r10.2.2.1, r10.2.2.2.1, r10.2.2.2.2)
      else
        bif (ByteArray.toList l.1 == ByteArray.toList (ByteArray.mk #[98, 101, 110, 100])) then
          bindF (f75 r2.2.2.2.2.2 r2.2.2.1 r2.2.2.2.1 r2.2.2.2.2.1 (11 : Int) x_ (0 : Int) l.2.1) fun r11 =>
          some (r11.1, r11.2.1, r11.2.2.1, r11.2.2.2.1, r11.2.2.2.2)
        else
          bindF (f75 r2.2.2.2.2.2 r2.2.2.1 r2.2.2.2.1 r2.2.2.2.2.1 (2 : Int) ahead x_ (0 : Int)) fun r12 =>
          some (r12.1, r12.2.1, r12.2.2.1, r12.2.2.2.1, r12.2.2.2.2)
def C47 : Con where
  X := (List (Int × Int × Int × Int × (List Int) × (List Int))) × Int × (List Int) × (List Int) × (ByteArray × Int × Int) × (List Int) × Int × Int
  Y := Int × Int × (List Int) × (List Int) × (List (Int × Int × Int × Int × (List Int) × (List Int)))
  e := 4
  args x := [.raw false [(.ptr 0 0)], .dat (.p .str (.p (.int .i64) (.int .i64))) x.2.2.2.2.1, .dat (.sl (.int .i64)) x.2.2.2.2.2.1, .dat (.int .i64) x.2.2.2.2.2.2.1, .dat (.int .i64) x.2.2.2.2.2.2.2]
  hin x := [(0, .cells [(.ptr 1 0), (.d (.int .i64) x.2.1), (.d (.sl (.int .i64)) x.2.2.1), (.osl 3)]), (1, .cells [(.osl 2)]), (2, .arr 132 (.p (.int .i64) (.p (.int .i64) (.p (.int .i64) (.p (.int .i64) (.p (.sl (.int .i64)) (.sl (.int .i64))))))) x.1), (3, .arr 3 (.int .i64) x.2.2.2.1)]
  F x := f47 x.1 x.2.1 x.2.2.1 x.2.2.2.1 x.2.2.2.2.1 x.2.2.2.2.2.1 x.2.2.2.2.2.2.1 x.2.2.2.2.2.2.2
  ret y := [.dat (.int .i64) y.1]
  hout y := [(0, .cells [(.ptr 1 0), (.d (.int .i64) y.2.1), (.d (.sl (.int .i64)) y.2.2.1), (.osl 4)]), (1, .cells [(.osl 5)]), (4, .arr 3 (.int .i64) y.2.2.2.1), (5, .arr 132 (.p (.int .i64) (.p (.int .i64) (.p (.int .i64) (.p (.int .i64) (.p (.sl (.int .i64)) (.sl (.int .i64))))))) y.2.2.2.2)]
  nout := 6
theorem C47_vc (r_t_l : List (Int × Int × Int × Int × (List Int) × (List Int))) (r_e : Int) (r_p : List Int) (r_leafs : List Int) (l : ByteArray × Int × Int) (in_ : List Int) (x_ : Int) (ahead : Int) (y : Int × Int × (List Int) × (List Int) × (List (Int × Int × Int × Int × (List Int) × (List Int)))) (hF : f47 r_t_l r_e r_p r_leafs l in_ x_ ahead = some y) : vc Tryz.prog tab Tryz.f47.ntmps 4 (match Tryz.f47.body with | some c => c | none => .skip) (retK tab C47 Tryz.f47.results.toList y) (C47.shIn (r_t_l, r_e, r_p, r_leafs, l, in_, x_, ahead)).st := by
  unfold f47 at hF
  refine Or.inl ?_
  refine Or.inl ?_
  obtain ⟨r1, hr1, hF⟩ := bindE hF
  refine Or.inl (And.intro f71_in (callV0 (callI C71 ((l.1, l.2.1, l.2.2), in_) r1 [] false C71_holds hr1 rfl rfl ?_)))
  refine (And.intro rfl (And.intro rfl (And.intro rfl (And.intro (fun h => nomatch h) (And.intro rfl (And.intro rfl (And.intro trivial (And.intro trivial ?_))))))))
  obtain ⟨r2, hr2, hF⟩ := bindE hF
  refine Or.inl (And.intro f74_in (callV0 (callI C74 (r_t_l, r_e, r_p, r_leafs, r1) r2 [(0, some 0), (1, some 1), (2, some 2), (3, some 3)] false C74_holds hr2 rfl rfl ?_)))
  refine (And.intro rfl (And.intro (fun h => nomatch h) (And.intro rfl (And.intro rfl (And.intro (And.intro rfl trivial) (And.intro (And.intro rfl (And.intro rfl (And.intro rfl (And.intro rfl trivial)))) ?_))))))
  refine Or.inl ?_
  refine Or.inl ?_
  refine Or.inl ?_
  refine condI hF (fun hF => ?_) (fun hF => ?_)
  · obtain ⟨z4, hz4, hF⟩ := bindE hF
    refine Or.inr ⟨[(0, ⟨[(0, .raw false [(.ptr 0 0)]), (3, .dat (.int .i64) z4.1), (11, .dat (.int .i64) r2.1), (12, .dat (.int .i64) r2.2.1)], [(0, .cells [(.ptr 1 0), (.d (.int .i64) z4.2.1), (.d (.sl (.int .i64)) z4.2.2.1), (.osl 4)]), (1, .cells [(.osl 5)]), (4, .arr 3 (.int .i64) z4.2.2.2.1), (5, .arr 132 (.p (.int .i64) (.p (.int .i64) (.p (.int .i64) (.p (.int .i64) (.p (.sl (.int .i64)) (.sl (.int .i64))))))) z4.2.2.2.2)], 6⟩)], ?_, ?_⟩
    · have hF := hz4
      clear hz4
      unfold f47_j1 at hF
      refine Or.inl ?_
      refine condI hF (fun hF => ?_) (fun hF => ?_)
      · obtain ⟨r5, hr5, hF⟩ := bindE hF
        refine Or.inl (And.intro f75_in (callV0 (callI C75 (r2.2.2.2.2.2, r2.2.2.1, r2.2.2.2.1, r2.2.2.2.2.1, (14 : Int), x_, (0 : Int), (0 : Int)) r5 [(0, some 0), (1, some 1), (2, some 11), (3, some 10)] false C75_holds hr5 rfl rfl ?_)))
        refine (And.intro rfl (And.intro rfl (And.intro rfl (And.intro rfl (And.intro (fun h => nomatch h) (And.intro rfl (And.intro rfl (And.intro (And.intro rfl trivial) (And.intro (And.intro rfl (And.intro rfl (And.intro rfl (And.intro rfl trivial)))) ?_)))))))))
        have hz := someE hF
        subst hz
        refine Exists.intro [] (Exists.intro [] (Exists.intro [] (Exists.intro [] (Exists.intro [(0, some 0), (1, some 1), (4, some 10), (5, some 16)] (And.intro rfl (And.intro rfl (And.intro rfl (And.intro rfl (And.intro (And.intro rfl trivial) (And.intro rfl (And.intro rfl (And.intro rfl (And.intro rfl trivial)))))))))))))
      · have hz := someE hF
        subst hz
        refine Exists.intro [] (Exists.intro [] (Exists.intro [] (Exists.intro [] (Exists.intro [(0, some 0), (1, some 1), (4, some 10), (5, some 11)] (And.intro rfl (And.intro rfl (And.intro rfl (And.intro rfl (And.intro (And.intro rfl trivial) (And.intro rfl (And.intro rfl (And.intro rfl (And.intro rfl trivial)))))))))))))
    · refine And.intro ?_ trivial
      refine Or.inl ?_
      obtain ⟨r6, hr6, hF⟩ := bindE hF
      refine Or.inl (And.intro f75_in (callV0 (callI C75 (z4.2.2.2.2, z4.2.1, z4.2.2.1, z4.2.2.2.1, (4 : Int), r2.1, z4.1, (0 : Int)) r6 [(0, some 0), (1, some 1), (2, some 5), (3, some 4)] false C75_holds hr6 rfl rfl ?_)))
      refine (And.intro rfl (And.intro rfl (And.intro rfl (And.intro rfl (And.intro (fun h => nomatch h) (And.intro rfl (And.intro rfl (And.intro (And.intro rfl trivial) (And.intro (And.intro rfl (And.intro rfl (And.intro rfl (And.intro rfl trivial)))) ?_)))))))))
      obtain ⟨r7, hr7, hF⟩ := bindE hF
      refine Or.inl (And.intro f75_in (callV0 (callI C75 (r6.2.2.2.2, r6.2.1, r6.2.2.1, r6.2.2.2.1, (8 : Int), r6.1, (0 : Int), (1 : Int)) r7 [(0, some 0), (1, some 1), (2, some 10), (3, some 4)] false C75_holds hr7 rfl rfl ?_)))
      refine (And.intro rfl (And.intro rfl (And.intro rfl (And.intro rfl (And.intro (fun h => nomatch h) (And.intro rfl (And.intro rfl (And.intro (And.intro rfl trivial) (And.intro (And.intro rfl (And.intro rfl (And.intro rfl (And.intro rfl trivial)))) ?_)))))))))
      refine Or.inl ?_
      obtain ⟨r8, hr8, hF⟩ := bindE hF
      refine Or.inl (And.intro f75_in (callV0 (callI C75 (r7.2.2.2.2, r7.2.1, r7.2.2.1, r7.2.2.2.1, (2 : Int), r7.1, r2.2.1, (0 : Int)) r8 [(0, some 0), (1, some 1), (2, some 15), (3, some 4)] false C75_holds hr8 rfl rfl ?_)))
      refine (And.intro rfl (And.intro rfl (And.intro rfl (And.intro rfl (And.intro (fun h => nomatch h) (And.intro rfl (And.intro rfl (And.intro (And.intro rfl trivial) (And.intro (And.intro rfl (And.intro rfl (And.intro rfl (And.intro rfl trivial)))) ?_)))))))))
      have hy := someE hF
      subst hy
      refine And.intro rfl (Exists.intro [] (Exists.intro [] (Exists.intro [] (Exists.intro [] (Exists.intro [(0, some 0), (1, some 1), (4, some 4), (5, some 20)] (And.intro rfl (And.intro rfl (And.intro trivial (And.intro rfl (And.intro rfl (And.intro rfl (And.intro rfl trivial))))))))))))
  · refine Or.inl ?_
    refine condI hF (fun hF => ?_) (fun hF => ?_)
    · refine Or.inl ?_
      obtain ⟨r9, hr9, hF⟩ := bindE hF
      refine Or.inl (And.intro f75_in (callV0 (callI C75 (r2.2.2.2.2.2, r2.2.2.1, r2.2.2.2.1, r2.2.2.2.2.1, (12 : Int), x_, r2.1, (1 : Int)) r9 [(0, some 0), (1, some 1), (2, some 11), (3, some 10)] false C75_holds hr9 rfl rfl ?_)))
      refine (And.intro rfl (And.intro rfl (And.intro rfl (And.intro rfl (And.intro (fun h => nomatch h) (And.intro rfl (And.intro rfl (And.intro (And.intro rfl trivial) (And.intro (And.intro rfl (And.intro rfl (And.intro rfl (And.intro rfl trivial)))) ?_)))))))))
      have hy := someE hF
      subst hy
      refine And.intro rfl (Exists.intro [] (Exists.intro [] (Exists.intro [] (Exists.intro [] (Exists.intro [(0, some 0), (1, some 1), (4, some 10), (5, some 16)] (And.intro rfl (And.intro rfl (And.intro trivial (And.intro rfl (And.intro rfl (And.intro rfl (And.intro rfl trivial))))))))))))
    · refine Or.inl ?_
      refine condI hF (fun hF => ?_) (fun hF => ?_)
      · refine Or.inl ?_
        obtain ⟨r10, hr10, hF⟩ := bindE hF
        refine Or.inl (And.intro f75_in (callV0 (callI C75 (r2.2.2.2.2.2, r2.2.2.1, r2.2.2.2.1, r2.2.2.2.2.1, (13 : Int), x_, (0 : Int), l.2.1) r10 [(0, some 0), (1, some 1), (2, some 11), (3, some 10)] false C75_holds hr10 rfl rfl ?_)))
        refine (And.intro rfl (And.intro rfl (And.intro rfl (And.intro rfl (And.intro (fun h => nomatch h) (And.intro rfl (And.intro rfl (And.intro (And.intro rfl trivial) (And.intro (And.intro rfl (And.intro rfl (And.intro rfl (And.intro rfl trivial)))) ?_)))))))))
        have hy := someE hF
        subst hy
        refine And.intro rfl (Exists.intro [] (Exists.intro [] (Exists.intro [] (Exists.intro [] (Exists.intro [(0, some 0), (1, some 1), (4, some 10), (5, some 16)] (And.intro rfl (And.intro rfl (And.intro trivial (And.intro rfl (And.intro rfl (And.intro rfl (And.intro rfl trivial))))))))))))
      · refine Or.inl ?_
        refine condI hF (fun hF => ?_) (fun hF => ?_)
        · refine Or.inl ?_
          obtain ⟨r11, hr11, hF⟩ := bindE hF
          refine Or.inl (And.intro f75_in (callV0 (callI C75 (r2.2.2.2.2.2, r2.2.2.1, r2.2.2.2.1, r2.2.2.2.2.1, (11 : Int), x_, (0 : Int), l.2.1) r11 [(0, some 0), (1, some 1), (2, some 11), (3, some 10)] false C75_holds hr11 rfl rfl ?_)))
          refine (And.intro rfl (And.intro rfl (And.intro rfl (And.intro rfl (And.intro (fun h => nomatch h) (And.intro rfl (And.intro rfl (And.intro (And.intro rfl trivial) (And.intro (And.intro rfl (And.intro rfl (And.intro rfl (And.intro rfl trivial)))) ?_)))))))))
          have hy := someE hF
          subst hy
          refine And.intro rfl (Exists.intro [] (Exists.intro [] (Exists.intro [] (Exists.intro [] (Exists.intro [(0, some 0), (1, some 1), (4, some 10), (5, some 16)] (And.intro rfl (And.intro rfl (And.intro trivial (And.intro rfl (And.intro rfl (And.intro rfl (And.intro rfl trivial))))))))))))
        · refine Or.inl ?_
          obtain ⟨r12, hr12, hF⟩ := bindE hF
          refine Or.inl (And.intro f75_in (callV0 (callI C75 (r2.2.2.2.2.2, r2.2.2.1, r2.2.2.2.1, r2.2.2.2.2.1, (2 : Int), ahead, x_, (0 : Int)) r12 [(0, some 0), (1, some 1), (2, some 11), (3, some 10)] false C75_holds hr12 rfl rfl ?_)))
          refine (And.intro rfl (And.intro rfl (And.intro rfl (And.intro rfl (And.intro (fun h => nomatch h) (And.intro rfl (And.intro rfl (And.intro (And.intro rfl trivial) (And.intro (And.intro rfl (And.intro rfl (And.intro rfl (And.intro rfl trivial)))) ?_)))))))))
          have hy := someE hF
          subst hy
          refine And.intro rfl (Exists.intro [] (Exists.intro [] (Exists.intro [] (Exists.intro [] (Exists.intro [(0, some 0), (1, some 1), (4, some 10), (5, some 16)] (And.intro rfl (And.intro rfl (And.intro trivial (And.intro rfl (And.intro rfl (And.intro rfl (And.intro rfl trivial))))))))))))
theorem C47_holds : C47.Holds Tryz.prog 47 := holds_of_vc tab_ok mixed (fn := Tryz.f47) (by kernel_rfl) rfl C47 (fun x y hF => C47_vc x.1 x.2.1 x.2.2.1 x.2.2.2.1 x.2.2.2.2.1 x.2.2.2.2.2.1 x.2.2.2.2.2.2.1 x.2.2.2.2.2.2.2 y hF)
theorem f47_in : ∃ fn, Tryz.prog.funcs[47]? = some fn ∧ fn.body.isSome = true ∧ (fn.name == "runtime.NumGoroutine") = false := ⟨Tryz.f47, by kernel_rfl, by kernel_rfl, by kernel_rfl⟩
end Go.Proofs
namespace Go.Proofs
open Go.AM
-- (*carousel/tape.Tape).Cut
def f48 (t_l : List (Int × Int × Int × Int × (List Int) × (List Int))) (n : Int) : Option (List (Int × Int × Int × Int × (List Int) × (List Int))) :=
  guardF (0 ≤ (if (List.length t_l : Int) < (if (0 : Int) > n then (0 : Int) else n) then (List.length t_l : Int) else (if (0 : Int) > n then (0 : Int) else n)) ∧ (if (List.length t_l : Int) < (if (0 : Int) > n then (0 : Int) else n) then (List.length t_l : Int) else (if (0 : Int) > n then (0 : Int) else n)) ≤ (List.length t_l : Int)) <|
  some (List.take (Int.toNat (if (List.length t_l : Int) < (if (0 : Int) > n then (0 : Int) else n) then (List.length t_l : Int) else (if (0 : Int) > n then (0 : Int) else n))) t_l)
def C48 : Con where
  X := (List (Int × Int × Int × Int × (List Int) × (List Int))) × Int
  Y := List (Int × Int × Int × Int × (List Int) × (List Int))
  e := 2
  args x := [.raw false [(.ptr 0 0)], .dat (.int .i64) x.2]
  hin x := [(0, .cells [(.osl 1)]), (1, .arr 132 (.p (.int .i64) (.p (.int .i64) (.p (.int .i64) (.p (.int .i64) (.p (.sl (.int .i64)) (.sl (.int .i64))))))) x.1)]
  F x := f48 x.1 x.2
  ret y := []
  hout y := [(0, .cells [(.osl 2)]), (2, .arr 132 (.p (.int .i64) (.p (.int .i64) (.p (.int .i64) (.p (.int .i64) (.p (.sl (.int .i64)) (.sl (.int .i64))))))) y)]
  nout := 3
theorem C48_vc (t_l : List (Int × Int × Int × Int × (List Int) × (List Int))) (n : Int) (y : List (Int × Int × Int × Int × (List Int) × (List Int))) (hF : f48 t_l n = some y) : vc Tryz.prog tab Tryz.f48.ntmps 2 (match Tryz.f48.body with | some c => c | none => .skip) (retK tab C48 Tryz.f48.results.toList y) (C48.shIn (t_l, n)).st := by
  unfold f48 at hF
  refine Exists.intro (.take 0 (.take 1 (.take 2 (.take 3 (.take 4 (.take 5 (.take 6 (.take 7 (.take 8 (.take 9 (.take 10 (.take 11 (.take 12 (.alt 13 (.take 14 (.take 15 (.alt 16 .done .done))) .done)))))))))))))) (Exists.intro [(16, [0])] (Exists.intro [] (And.intro rfl ?_)))
  refine And.intro trivial ?_
  refine Or.inr (Or.inr ?_)
  refine guardI hF (fun hF => ?_)
  refine And.intro trivial ?_
  refine Or.inl ?_
  have hy := someE hF
  subst hy
  refine And.intro rfl (Exists.intro [] (Exists.intro [] (Exists.intro [] (Exists.intro [] (Exists.intro [(0, some 0), (2, some 2)] (And.intro rfl (And.intro trivial (And.intro rfl (And.intro rfl trivial)))))))))
theorem C48_holds : C48.Holds Tryz.prog 48 := holds_of_vc tab_ok mixed (fn := Tryz.f48) (by kernel_rfl) rfl C48 (fun x y hF => C48_vc x.1 x.2 y hF)
theorem f48_in : ∃ fn, Tryz.prog.funcs[48]? = some fn ∧ fn.body.isSome = true ∧ (fn.name == "runtime.NumGoroutine") = false := ⟨Tryz.f48, by kernel_rfl, by kernel_rfl, by kernel_rfl⟩
end Go.Proofs
