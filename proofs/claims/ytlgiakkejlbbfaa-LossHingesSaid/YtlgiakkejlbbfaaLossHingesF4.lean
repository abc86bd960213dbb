import Derived.Test.YtlgiakkejlbbfaaLossHingesF3
set_option linter.unusedVariables false
set_option maxRecDepth 100000
set_option maxHeartbeats 8000000
namespace Go.Proofs
open Go.AM
-- math/bits.Div64
def f89_j4 (lo : Int) (y_ : Int) (q6_7 : Int) (q1 : Int) (rhat : Int) : Option (Sum Unit Unit) :=
  bif (decide (q1 ≥ (4294967296 : Int))) then
    some (Sum.inl ())
  else
    bif (decide ((IntKind.u64.wrap (q1 * (bitsOf IntKind.u64 (fun p q => p &&& q) (IntKind.u64.wrap (y_ * 2 ^ min (Int.toNat (IntKind.u64.wrap q6_7)) (IntKind.bits IntKind.u64))) (4294967295 : Int)))) > (IntKind.u64.wrap ((IntKind.u64.wrap ((4294967296 : Int) * rhat)) + (Int.fdiv (IntKind.u64.wrap (lo * 2 ^ min (Int.toNat (IntKind.u64.wrap q6_7)) (IntKind.bits IntKind.u64))) (2 ^ min (Int.toNat (32 : Int)) (IntKind.bits IntKind.u64))))))) then
      some (Sum.inl ())
    else
      some (Sum.inr ())
def f89_l3 (lo : Int) (y_ : Int) (q6_7 : Int) (go : (Int × Int) → Option Int) (q1 : Int) (rhat : Int) : Option Int :=
  bindF (f89_j4 lo y_ q6_7 q1 rhat) fun z4 =>
  sumF z4 (fun z4a =>
    bif (decide ((IntKind.u64.wrap (rhat + (Int.fdiv (IntKind.u64.wrap (y_ * 2 ^ min (Int.toNat (IntKind.u64.wrap q6_7)) (IntKind.bits IntKind.u64))) (2 ^ min (Int.toNat (32 : Int)) (IntKind.bits IntKind.u64))))) ≥ (4294967296 : Int))) then
      some (IntKind.u64.wrap (q1 - (1 : Int)))
    else
      go ((IntKind.u64.wrap (q1 - (1 : Int))), (IntKind.u64.wrap (rhat + (Int.fdiv (IntKind.u64.wrap (y_ * 2 ^ min (Int.toNat (IntKind.u64.wrap q6_7)) (IntKind.bits IntKind.u64))) (2 ^ min (Int.toNat (32 : Int)) (IntKind.bits IntKind.u64))))))) (fun z4b =>
    some q1)
def f89_j8 (lo : Int) (y_ : Int) (q6_7 : Int) (rhat : Int) (q0 : Int) : Option (Sum Unit Unit) :=
  bif (decide (q0 ≥ (4294967296 : Int))) then
    some (Sum.inl ())
  else
    bif (decide ((IntKind.u64.wrap (q0 * (bitsOf IntKind.u64 (fun p q => p &&& q) (IntKind.u64.wrap (y_ * 2 ^ min (Int.toNat (IntKind.u64.wrap q6_7)) (IntKind.bits IntKind.u64))) (4294967295 : Int)))) > (IntKind.u64.wrap ((IntKind.u64.wrap ((4294967296 : Int) * rhat)) + (bitsOf IntKind.u64 (fun p q => p &&& q) (IntKind.u64.wrap (lo * 2 ^ min (Int.toNat (IntKind.u64.wrap q6_7)) (IntKind.bits IntKind.u64))) (4294967295 : Int)))))) then
      some (Sum.inl ())
    else
      some (Sum.inr ())
def f89_l7 (lo : Int) (y_ : Int) (q6_7 : Int) (go : (Int × Int) → Option Int) (rhat : Int) (q0 : Int) : Option Int :=
  bindF (f89_j8 lo y_ q6_7 rhat q0) fun z8 =>
  sumF z8 (fun z8a =>
    bif (decide ((IntKind.u64.wrap (rhat + (Int.fdiv (IntKind.u64.wrap (y_ * 2 ^ min (Int.toNat (IntKind.u64.wrap q6_7)) (IntKind.bits IntKind.u64))) (2 ^ min (Int.toNat (32 : Int)) (IntKind.bits IntKind.u64))))) ≥ (4294967296 : Int))) then
      some (IntKind.u64.wrap (q0 - (1 : Int)))
    else
      go ((IntKind.u64.wrap (rhat + (Int.fdiv (IntKind.u64.wrap (y_ * 2 ^ min (Int.toNat (IntKind.u64.wrap q6_7)) (IntKind.bits IntKind.u64))) (2 ^ min (Int.toNat (32 : Int)) (IntKind.bits IntKind.u64))))), (IntKind.u64.wrap (q0 - (1 : Int))))) (fun z8b =>
    some q0)
def f89 (hi : Int) (lo : Int) (y_ : Int) : Option (Int × Int) :=
  bif (y_ == (0 : Int)) then
    none
  else
    bif (decide (y_ ≤ hi)) then
      none
    else
      bif (hi == (0 : Int)) then
        guardF (y_ ≠ 0) <|
        guardF (y_ ≠ 0) <|
        some ((IntKind.u64.wrap (Int.tdiv lo y_)), (Int.tmod lo y_))
      else
        bindF (f97 y_) fun q6_7 =>
        guardF (0 ≤ (IntKind.u64.wrap q6_7)) <|
        guardF (0 ≤ (IntKind.u64.wrap q6_7)) <|
        guardF (0 ≤ (IntKind.u64.wrap ((64 : Int) - (IntKind.u64.wrap q6_7)))) <|
        guardF (0 ≤ (IntKind.u64.wrap q6_7)) <|
        guardF ((Int.fdiv (IntKind.u64.wrap (y_ * 2 ^ min (Int.toNat (IntKind.u64.wrap q6_7)) (IntKind.bits IntKind.u64))) (2 ^ min (Int.toNat (32 : Int)) (IntKind.bits IntKind.u64))) ≠ 0) <|
        bindF (loopF (fun go x => f89_l3 lo y_ q6_7 go x.1 x.2) fuelN ((IntKind.u64.wrap (Int.tdiv (bitsOf IntKind.u64 (fun p q => p ||| q) (IntKind.u64.wrap (hi * 2 ^ min (Int.toNat (IntKind.u64.wrap q6_7)) (IntKind.bits IntKind.u64))) (Int.fdiv lo (2 ^ min (Int.toNat (IntKind.u64.wrap ((64 : Int) - (IntKind.u64.wrap q6_7)))) (IntKind.bits IntKind.u64)))) (Int.fdiv (IntKind.u64.wrap (y_ * 2 ^ min (Int.toNat (IntKind.u64.wrap q6_7)) (IntKind.bits IntKind.u64))) (2 ^ min (Int.toNat (32 : Int)) (IntKind.bits IntKind.u64))))), (IntKind.u64.wrap ((bitsOf IntKind.u64 (fun p q => p ||| q) (IntKind.u64.wrap (hi * 2 ^ min (Int.toNat (IntKind.u64.wrap q6_7)) (IntKind.bits IntKind.u64))) (Int.fdiv lo (2 ^ min (Int.toNat (IntKind.u64.wrap ((64 : Int) - (IntKind.u64.wrap q6_7)))) (IntKind.bits IntKind.u64)))) - (IntKind.u64.wrap ((IntKind.u64.wrap (Int.tdiv (bitsOf IntKind.u64 (fun p q => p ||| q) (IntKind.u64.wrap (hi * 2 ^ min (Int.toNat (IntKind.u64.wrap q6_7)) (IntKind.bits IntKind.u64))) (Int.fdiv lo (2 ^ min (Int.toNat (IntKind.u64.wrap ((64 : Int) - (IntKind.u64.wrap q6_7)))) (IntKind.bits IntKind.u64)))) (Int.fdiv (IntKind.u64.wrap (y_ * 2 ^ min (Int.toNat (IntKind.u64.wrap q6_7)) (IntKind.bits IntKind.u64))) (2 ^ min (Int.toNat (32 : Int)) (IntKind.bits IntKind.u64))))) * (Int.fdiv (IntKind.u64.wrap (y_ * 2 ^ min (Int.toNat (IntKind.u64.wrap q6_7)) (IntKind.bits IntKind.u64))) (2 ^ min (Int.toNat (32 : Int)) (IntKind.bits IntKind.u64))))))))) fun z3 =>
        guardF ((Int.fdiv (IntKind.u64.wrap (y_ * 2 ^ min (Int.toNat (IntKind.u64.wrap q6_7)) (IntKind.bits IntKind.u64))) (2 ^ min (Int.toNat (32 : Int)) (IntKind.bits IntKind.u64))) ≠ 0) <|
        bindF (loopF (fun go x => f89_l7 lo y_ q6_7 go x.1 x.2) fuelN ((IntKind.u64.wrap ((IntKind.u64.wrap ((IntKind.u64.wrap ((IntKind.u64.wrap ((bitsOf IntKind.u64 (fun p q => p ||| q) (IntKind.u64.wrap (hi * 2 ^ min (Int.toNat (IntKind.u64.wrap q6_7)) (IntKind.bits IntKind.u64))) (Int.fdiv lo (2 ^ min (Int.toNat (IntKind.u64.wrap ((64 : Int) - (IntKind.u64.wrap q6_7)))) (IntKind.bits IntKind.u64)))) * (4294967296 : Int))) + (Int.fdiv (IntKind.u64.wrap (lo * 2 ^ min (Int.toNat (IntKind.u64.wrap q6_7)) (IntKind.bits IntKind.u64))) (2 ^ min (Int.toNat (32 : Int)) (IntKind.bits IntKind.u64))))) - (IntKind.u64.wrap (z3 * (IntKind.u64.wrap (y_ * 2 ^ min (Int.toNat (IntKind.u64.wrap q6_7)) (IntKind.bits IntKind.u64))))))) - (IntKind.u64.wrap ((IntKind.u64.wrap (Int.tdiv (IntKind.u64.wrap ((IntKind.u64.wrap ((IntKind.u64.wrap ((bitsOf IntKind.u64 (fun p q => p ||| q) (IntKind.u64.wrap (hi * 2 ^ min (Int.toNat (IntKind.u64.wrap q6_7)) (IntKind.bits IntKind.u64))) (Int.fdiv lo (2 ^ min (Int.toNat (IntKind.u64.wrap ((64 : Int) - (IntKind.u64.wrap q6_7)))) (IntKind.bits IntKind.u64)))) * (4294967296 : Int))) + (Int.fdiv (IntKind.u64.wrap (lo * 2 ^ min (Int.toNat (IntKind.u64.wrap q6_7)) (IntKind.bits IntKind.u64))) (2 ^ min (Int.toNat (32 : Int)) (IntKind.bits IntKind.u64))))) - (IntKind.u64.wrap (z3 * (IntKind.u64.wrap (y_ * 2 ^ min (Int.toNat (IntKind.u64.wrap q6_7)) (IntKind.bits IntKind.u64))))))) (Int.fdiv (IntKind.u64.wrap (y_ * 2 ^ min (Int.toNat (IntKind.u64.wrap q6_7)) (IntKind.bits IntKind.u64))) (2 ^ min (Int.toNat (32 : Int)) (IntKind.bits IntKind.u64))))) * (Int.fdiv (IntKind.u64.wrap (y_ * 2 ^ min (Int.toNat (IntKind.u64.wrap q6_7)) (IntKind.bits IntKind.u64))) (2 ^ min (Int.toNat (32 : Int)) (IntKind.bits IntKind.u64))))))), (IntKind.u64.wrap (Int.tdiv (IntKind.u64.wrap ((IntKind.u64.wrap ((IntKind.u64.wrap ((bitsOf IntKind.u64 (fun p q => p ||| q) (IntKind.u64.wrap (hi * 2 ^ min (Int.toNat (IntKind.u64.wrap q6_7)) (IntKind.bits IntKind.u64))) (Int.fdiv lo (2 ^ min (Int.toNat (IntKind.u64.wrap ((64 : Int) - (IntKind.u64.wrap q6_7)))) (IntKind.bits IntKind.u64)))) * (4294967296 : Int))) + (Int.fdiv (IntKind.u64.wrap (lo * 2 ^ min (Int.toNat (IntKind.u64.wrap q6_7)) (IntKind.bits IntKind.u64))) (2 ^ min (Int.toNat (32 : Int)) (IntKind.bits IntKind.u64))))) - (IntKind.u64.wrap (z3 * (IntKind.u64.wrap (y_ * 2 ^ min (Int.toNat (IntKind.u64.wrap q6_7)) (IntKind.bits IntKind.u64))))))) (Int.fdiv (IntKind.u64.wrap (y_ * 2 ^ min (Int.toNat (IntKind.u64.wrap q6_7)) (IntKind.bits IntKind.u64))) (2 ^ min (Int.toNat (32 : Int)) (IntKind.bits IntKind.u64))))))) fun z7 =>
        guardF (0 ≤ (IntKind.u64.wrap q6_7)) <|
        some ((IntKind.u64.wrap ((IntKind.u64.wrap (z3 * (4294967296 : Int))) + z7)), (Int.fdiv (IntKind.u64.wrap ((IntKind.u64.wrap ((IntKind.u64.wrap ((IntKind.u64.wrap ((IntKind.u64.wrap ((IntKind.u64.wrap ((bitsOf IntKind.u64 (fun p q => p ||| q) (IntKind.u64.wrap (hi * 2 ^ min (Int.toNat (IntKind.u64.wrap q6_7)) (IntKind.bits IntKind.u64))) (Int.fdiv lo (2 ^ min (Int.toNat (IntKind.u64.wrap ((64 : Int) - (IntKind.u64.wrap q6_7)))) (IntKind.bits IntKind.u64)))) * (4294967296 : Int))) + (Int.fdiv (IntKind.u64.wrap (lo * 2 ^ min (Int.toNat (IntKind.u64.wrap q6_7)) (IntKind.bits IntKind.u64))) (2 ^ min (Int.toNat (32 : Int)) (IntKind.bits IntKind.u64))))) - (IntKind.u64.wrap (z3 * (IntKind.u64.wrap (y_ * 2 ^ min (Int.toNat (IntKind.u64.wrap q6_7)) (IntKind.bits IntKind.u64))))))) * (4294967296 : Int))) + (bitsOf IntKind.u64 (fun p q => p &&& q) (IntKind.u64.wrap (lo * 2 ^ min (Int.toNat (IntKind.u64.wrap q6_7)) (IntKind.bits IntKind.u64))) (4294967295 : Int)))) - (IntKind.u64.wrap (z7 * (IntKind.u64.wrap (y_ * 2 ^ min (Int.toNat (IntKind.u64.wrap q6_7)) (IntKind.bits IntKind.u64))))))) (2 ^ min (Int.toNat (IntKind.u64.wrap q6_7)) (IntKind.bits IntKind.u64))))
def C89 : Con where
  X := Int × Int × Int
  Y := Int × Int
  e := 0
  args x := [.dat (.int .u64) x.1, .dat (.int .u64) x.2.1, .dat (.int .u64) x.2.2]
  hin x := []
  F x := f89 x.1 x.2.1 x.2.2
  ret y := [.dat (.int .u64) y.1, .dat (.int .u64) y.2]
  hout y := []
  nout := 0
theorem C89_vc (hi : Int) (lo : Int) (y_ : Int) (y : Int × Int) (hF : f89 hi lo y_ = some y) : vc Try.prog tab Try.f89.ntmps 0 (match Try.f89.body with | some c => c | none => .skip) (retK tab C89 Try.f89.results.toList y) (C89.shIn (hi, lo, y_)).st := by
  unfold f89 at hF
  refine Or.inl ?_
  refine Or.inl ?_
  refine Or.inl ?_
  refine condI hF (fun hF => ?_) (fun hF => ?_)
  · exact nomatch hF
  · refine Or.inl ?_
    refine Or.inl ?_
    refine condI hF (fun hF => ?_) (fun hF => ?_)
    · exact nomatch hF
    · refine Or.inl ?_
      refine Or.inl ?_
      refine condI hF (fun hF => ?_) (fun hF => ?_)
      · refine Or.inl ?_
        refine Exists.intro (.take 0 (.take 1 (.take 2 (.take 3 (.take 4 (.take 5 (.take 6 (.take 7 .done)))))))) (Exists.intro [] (Exists.intro [] (And.intro rfl ?_)))
        refine guardI hF (fun hF => ?_)
        refine guardI hF (fun hF => ?_)
        have hy := someE hF
        subst hy
        refine And.intro rfl (Exists.intro [] (Exists.intro [] (Exists.intro [] (Exists.intro [] (Exists.intro [] (And.intro rfl (And.intro rfl (And.intro rfl (And.intro trivial trivial)))))))))
      · refine Or.inl ?_
        obtain ⟨q6_7, hq6_7, hF⟩ := bindE hF
        refine Or.inl (And.intro f97_in (callV0 (callI C97 y_ q6_7 [] false C97_holds hq6_7 rfl rfl ?_)))
        refine (And.intro rfl (And.intro (fun h => nomatch h) (And.intro rfl (And.intro rfl (And.intro trivial (And.intro trivial ?_))))))
        refine Or.inl ?_
        refine guardI hF (fun hF => ?_)
        refine Or.inl ?_
        refine And.intro (by decide) ?_
        refine Or.inl ?_
        refine Or.inl ?_
        refine guardI hF (fun hF => ?_)
        refine guardI hF (fun hF => ?_)
        refine Or.inl ?_
        refine guardI hF (fun hF => ?_)
        refine Or.inl ?_
        refine And.intro (by decide) ?_
        refine Or.inl ?_
        refine Or.inl ?_
        refine guardI hF (fun hF => ?_)
        refine Or.inl ?_
        refine Or.inl ?_
        obtain ⟨z3, hz3, hF⟩ := bindE hF
        refine loopI (Int × Int) Int (fun x => ⟨[(2, .dat (.int .u64) (IntKind.u64.wrap (y_ * 2 ^ min (Int.toNat (IntKind.u64.wrap q6_7)) (IntKind.bits IntKind.u64)))), (8, .dat (.int .u64) (IntKind.u64.wrap q6_7)), (9, .dat (.int .u64) (Int.fdiv (IntKind.u64.wrap (y_ * 2 ^ min (Int.toNat (IntKind.u64.wrap q6_7)) (IntKind.bits IntKind.u64))) (2 ^ min (Int.toNat (32 : Int)) (IntKind.bits IntKind.u64)))), (10, .dat (.int .u64) (bitsOf IntKind.u64 (fun p q => p &&& q) (IntKind.u64.wrap (y_ * 2 ^ min (Int.toNat (IntKind.u64.wrap q6_7)) (IntKind.bits IntKind.u64))) (4294967295 : Int))), (11, .dat (.int .u64) (bitsOf IntKind.u64 (fun p q => p ||| q) (IntKind.u64.wrap (hi * 2 ^ min (Int.toNat (IntKind.u64.wrap q6_7)) (IntKind.bits IntKind.u64))) (Int.fdiv lo (2 ^ min (Int.toNat (IntKind.u64.wrap ((64 : Int) - (IntKind.u64.wrap q6_7)))) (IntKind.bits IntKind.u64))))), (13, .dat (.int .u64) (Int.fdiv (IntKind.u64.wrap (lo * 2 ^ min (Int.toNat (IntKind.u64.wrap q6_7)) (IntKind.bits IntKind.u64))) (2 ^ min (Int.toNat (32 : Int)) (IntKind.bits IntKind.u64)))), (14, .dat (.int .u64) (bitsOf IntKind.u64 (fun p q => p &&& q) (IntKind.u64.wrap (lo * 2 ^ min (Int.toNat (IntKind.u64.wrap q6_7)) (IntKind.bits IntKind.u64))) (4294967295 : Int))), (15, .dat (.int .u64) x.1), (16, .dat (.int .u64) x.2)], [], 0⟩) (fun z => [(2, ⟨[(2, .dat (.int .u64) (IntKind.u64.wrap (y_ * 2 ^ min (Int.toNat (IntKind.u64.wrap q6_7)) (IntKind.bits IntKind.u64)))), (8, .dat (.int .u64) (IntKind.u64.wrap q6_7)), (9, .dat (.int .u64) (Int.fdiv (IntKind.u64.wrap (y_ * 2 ^ min (Int.toNat (IntKind.u64.wrap q6_7)) (IntKind.bits IntKind.u64))) (2 ^ min (Int.toNat (32 : Int)) (IntKind.bits IntKind.u64)))), (10, .dat (.int .u64) (bitsOf IntKind.u64 (fun p q => p &&& q) (IntKind.u64.wrap (y_ * 2 ^ min (Int.toNat (IntKind.u64.wrap q6_7)) (IntKind.bits IntKind.u64))) (4294967295 : Int))), (11, .dat (.int .u64) (bitsOf IntKind.u64 (fun p q => p ||| q) (IntKind.u64.wrap (hi * 2 ^ min (Int.toNat (IntKind.u64.wrap q6_7)) (IntKind.bits IntKind.u64))) (Int.fdiv lo (2 ^ min (Int.toNat (IntKind.u64.wrap ((64 : Int) - (IntKind.u64.wrap q6_7)))) (IntKind.bits IntKind.u64))))), (13, .dat (.int .u64) (Int.fdiv (IntKind.u64.wrap (lo * 2 ^ min (Int.toNat (IntKind.u64.wrap q6_7)) (IntKind.bits IntKind.u64))) (2 ^ min (Int.toNat (32 : Int)) (IntKind.bits IntKind.u64)))), (14, .dat (.int .u64) (bitsOf IntKind.u64 (fun p q => p &&& q) (IntKind.u64.wrap (lo * 2 ^ min (Int.toNat (IntKind.u64.wrap q6_7)) (IntKind.bits IntKind.u64))) (4294967295 : Int))), (15, .dat (.int .u64) z)], [], 0⟩)]) (loopF (fun go x => f89_l3 lo y_ q6_7 go x.1 x.2)) fuelN ((IntKind.u64.wrap (Int.tdiv (bitsOf IntKind.u64 (fun p q => p ||| q) (IntKind.u64.wrap (hi * 2 ^ min (Int.toNat (IntKind.u64.wrap q6_7)) (IntKind.bits IntKind.u64))) (Int.fdiv lo (2 ^ min (Int.toNat (IntKind.u64.wrap ((64 : Int) - (IntKind.u64.wrap q6_7)))) (IntKind.bits IntKind.u64)))) (Int.fdiv (IntKind.u64.wrap (y_ * 2 ^ min (Int.toNat (IntKind.u64.wrap q6_7)) (IntKind.bits IntKind.u64))) (2 ^ min (Int.toNat (32 : Int)) (IntKind.bits IntKind.u64))))), (IntKind.u64.wrap ((bitsOf IntKind.u64 (fun p q => p ||| q) (IntKind.u64.wrap (hi * 2 ^ min (Int.toNat (IntKind.u64.wrap q6_7)) (IntKind.bits IntKind.u64))) (Int.fdiv lo (2 ^ min (Int.toNat (IntKind.u64.wrap ((64 : Int) - (IntKind.u64.wrap q6_7)))) (IntKind.bits IntKind.u64)))) - (IntKind.u64.wrap ((IntKind.u64.wrap (Int.tdiv (bitsOf IntKind.u64 (fun p q => p ||| q) (IntKind.u64.wrap (hi * 2 ^ min (Int.toNat (IntKind.u64.wrap q6_7)) (IntKind.bits IntKind.u64))) (Int.fdiv lo (2 ^ min (Int.toNat (IntKind.u64.wrap ((64 : Int) - (IntKind.u64.wrap q6_7)))) (IntKind.bits IntKind.u64)))) (Int.fdiv (IntKind.u64.wrap (y_ * 2 ^ min (Int.toNat (IntKind.u64.wrap q6_7)) (IntKind.bits IntKind.u64))) (2 ^ min (Int.toNat (32 : Int)) (IntKind.bits IntKind.u64))))) * (Int.fdiv (IntKind.u64.wrap (y_ * 2 ^ min (Int.toNat (IntKind.u64.wrap q6_7)) (IntKind.bits IntKind.u64))) (2 ^ min (Int.toNat (32 : Int)) (IntKind.bits IntKind.u64)))))))) z3 (And.intro hz3 (And.intro (Exists.intro [] (Exists.intro [] (Exists.intro [] (Exists.intro [] (Exists.intro [] (And.intro rfl (And.intro rfl (And.intro rfl (And.intro rfl (And.intro rfl (And.intro rfl (And.intro rfl (And.intro rfl (And.intro rfl (And.intro rfl (And.intro trivial trivial)))))))))))))))) (And.intro (fun _ _ h => loopZ h) (And.intro (fun m => curI (fun q1 => fun rhat z hF => ?_)) ?_))))
        · have hF : f89_l3 lo y_ q6_7 (loopF (fun go x => f89_l3 lo y_ q6_7 go x.1 x.2) m) q1 rhat = some z := hF
          unfold f89_l3 at hF
          obtain ⟨z4, hz4, hF⟩ := bindE hF
          refine Or.inr ⟨Sum.elim (fun z4a => [(0, ⟨[(2, .dat (.int .u64) (IntKind.u64.wrap (y_ * 2 ^ min (Int.toNat (IntKind.u64.wrap q6_7)) (IntKind.bits IntKind.u64)))), (8, .dat (.int .u64) (IntKind.u64.wrap q6_7)), (9, .dat (.int .u64) (Int.fdiv (IntKind.u64.wrap (y_ * 2 ^ min (Int.toNat (IntKind.u64.wrap q6_7)) (IntKind.bits IntKind.u64))) (2 ^ min (Int.toNat (32 : Int)) (IntKind.bits IntKind.u64)))), (10, .dat (.int .u64) (bitsOf IntKind.u64 (fun p q => p &&& q) (IntKind.u64.wrap (y_ * 2 ^ min (Int.toNat (IntKind.u64.wrap q6_7)) (IntKind.bits IntKind.u64))) (4294967295 : Int))), (11, .dat (.int .u64) (bitsOf IntKind.u64 (fun p q => p ||| q) (IntKind.u64.wrap (hi * 2 ^ min (Int.toNat (IntKind.u64.wrap q6_7)) (IntKind.bits IntKind.u64))) (Int.fdiv lo (2 ^ min (Int.toNat (IntKind.u64.wrap ((64 : Int) - (IntKind.u64.wrap q6_7)))) (IntKind.bits IntKind.u64))))), (13, .dat (.int .u64) (Int.fdiv (IntKind.u64.wrap (lo * 2 ^ min (Int.toNat (IntKind.u64.wrap q6_7)) (IntKind.bits IntKind.u64))) (2 ^ min (Int.toNat (32 : Int)) (IntKind.bits IntKind.u64)))), (14, .dat (.int .u64) (bitsOf IntKind.u64 (fun p q => p &&& q) (IntKind.u64.wrap (lo * 2 ^ min (Int.toNat (IntKind.u64.wrap q6_7)) (IntKind.bits IntKind.u64))) (4294967295 : Int))), (15, .dat (.int .u64) q1), (16, .dat (.int .u64) rhat)], [], 0⟩)]) (fun z4b => [(2, ⟨[(2, .dat (.int .u64) (IntKind.u64.wrap (y_ * 2 ^ min (Int.toNat (IntKind.u64.wrap q6_7)) (IntKind.bits IntKind.u64)))), (8, .dat (.int .u64) (IntKind.u64.wrap q6_7)), (9, .dat (.int .u64) (Int.fdiv (IntKind.u64.wrap (y_ * 2 ^ min (Int.toNat (IntKind.u64.wrap q6_7)) (IntKind.bits IntKind.u64))) (2 ^ min (Int.toNat (32 : Int)) (IntKind.bits IntKind.u64)))), (10, .dat (.int .u64) (bitsOf IntKind.u64 (fun p q => p &&& q) (IntKind.u64.wrap (y_ * 2 ^ min (Int.toNat (IntKind.u64.wrap q6_7)) (IntKind.bits IntKind.u64))) (4294967295 : Int))), (11, .dat (.int .u64) (bitsOf IntKind.u64 (fun p q => p ||| q) (IntKind.u64.wrap (hi * 2 ^ min (Int.toNat (IntKind.u64.wrap q6_7)) (IntKind.bits IntKind.u64))) (Int.fdiv lo (2 ^ min (Int.toNat (IntKind.u64.wrap ((64 : Int) - (IntKind.u64.wrap q6_7)))) (IntKind.bits IntKind.u64))))), (13, .dat (.int .u64) (Int.fdiv (IntKind.u64.wrap (lo * 2 ^ min (Int.toNat (IntKind.u64.wrap q6_7)) (IntKind.bits IntKind.u64))) (2 ^ min (Int.toNat (32 : Int)) (IntKind.bits IntKind.u64)))), (14, .dat (.int .u64) (bitsOf IntKind.u64 (fun p q => p &&& q) (IntKind.u64.wrap (lo * 2 ^ min (Int.toNat (IntKind.u64.wrap q6_7)) (IntKind.bits IntKind.u64))) (4294967295 : Int))), (15, .dat (.int .u64) q1)], [], 0⟩)]) z4, ?_, ?_⟩
          · have hF := hz4
            clear hz4
            unfold f89_j4 at hF
            refine Or.inl ?_
            refine condN hF (fun hF => ?_) (fun hF => ?_)
            · refine gdYF ?_
              refine gdYF ?_
              refine gdYF ?_
              refine gdYF ?_
              refine gdYF ?_
              refine gdYF ?_
              refine gdYF ?_
              refine condF ?_
              refine condI hF (fun hF => ?_) (fun hF => ?_)
              · have hz := someE hF
                subst hz
                refine Exists.intro [] (Exists.intro [] (Exists.intro [] (Exists.intro [] (Exists.intro [] (And.intro rfl (And.intro rfl (And.intro rfl (And.intro rfl (And.intro rfl (And.intro rfl (And.intro rfl (And.intro rfl (And.intro rfl (And.intro rfl (And.intro trivial trivial)))))))))))))))
              · have hz := someE hF
                subst hz
                refine Exists.intro [] (Exists.intro [] (Exists.intro [] (Exists.intro [] (Exists.intro [] (And.intro rfl (And.intro rfl (And.intro rfl (And.intro rfl (And.intro rfl (And.intro rfl (And.intro rfl (And.intro rfl (And.intro rfl (And.intro trivial trivial))))))))))))))
            · refine gdNF ?_
              refine gdNF ?_
              refine gdNF ?_
              refine gdNF ?_
              refine gdNF ?_
              refine gdNF ?_
              refine gdNF ?_
              refine condT ?_
              refine condT ?_
              have hz := someE hF
              subst hz
              refine Exists.intro [] (Exists.intro [] (Exists.intro [] (Exists.intro [] (Exists.intro [] (And.intro rfl (And.intro rfl (And.intro rfl (And.intro rfl (And.intro rfl (And.intro rfl (And.intro rfl (And.intro rfl (And.intro rfl (And.intro rfl (And.intro trivial trivial)))))))))))))))
          · rcases z4 with z4a | z4b
            · dsimp only [sumF] at hF
              refine And.intro ?_ trivial
              refine Or.inl ?_
              refine Or.inl ?_
              refine Or.inl ?_
              refine condI hF (fun hF => ?_) (fun hF => ?_)
              · have hz := someE hF
                subst hz
                refine Exists.intro [] (Exists.intro [] (Exists.intro [] (Exists.intro [] (Exists.intro [] (And.intro rfl (And.intro rfl (And.intro rfl (And.intro rfl (And.intro rfl (And.intro rfl (And.intro rfl (And.intro rfl (And.intro rfl (And.intro trivial trivial))))))))))))))
              · refine Exists.intro ((IntKind.u64.wrap (q1 - (1 : Int))), (IntKind.u64.wrap (rhat + (Int.fdiv (IntKind.u64.wrap (y_ * 2 ^ min (Int.toNat (IntKind.u64.wrap q6_7)) (IntKind.bits IntKind.u64))) (2 ^ min (Int.toNat (32 : Int)) (IntKind.bits IntKind.u64)))))) (And.intro hF (Exists.intro [] (Exists.intro [] (Exists.intro [] (Exists.intro [] (Exists.intro [] (And.intro rfl (And.intro rfl (And.intro rfl (And.intro rfl (And.intro rfl (And.intro rfl (And.intro rfl (And.intro rfl (And.intro rfl (And.intro rfl (And.intro trivial trivial)))))))))))))))))
            · dsimp only [sumF] at hF
              refine And.intro ?_ trivial
              have hz := someE hF
              subst hz
              refine Exists.intro [] (Exists.intro [] (Exists.intro [] (Exists.intro [] (Exists.intro [] (And.intro rfl (And.intro rfl (And.intro rfl (And.intro rfl (And.intro rfl (And.intro rfl (And.intro rfl (And.intro rfl (And.intro rfl (And.intro trivial trivial))))))))))))))
        · refine And.intro ?_ trivial
          refine Or.inl ?_
          refine Or.inl ?_
          refine guardI hF (fun hF => ?_)
          refine Or.inl ?_
          refine Or.inl ?_
          obtain ⟨z7, hz7, hF⟩ := bindE hF
          refine loopI (Int × Int) Int (fun x => ⟨[(2, .dat (.int .u64) (IntKind.u64.wrap (y_ * 2 ^ min (Int.toNat (IntKind.u64.wrap q6_7)) (IntKind.bits IntKind.u64)))), (8, .dat (.int .u64) (IntKind.u64.wrap q6_7)), (9, .dat (.int .u64) (Int.fdiv (IntKind.u64.wrap (y_ * 2 ^ min (Int.toNat (IntKind.u64.wrap q6_7)) (IntKind.bits IntKind.u64))) (2 ^ min (Int.toNat (32 : Int)) (IntKind.bits IntKind.u64)))), (10, .dat (.int .u64) (bitsOf IntKind.u64 (fun p q => p &&& q) (IntKind.u64.wrap (y_ * 2 ^ min (Int.toNat (IntKind.u64.wrap q6_7)) (IntKind.bits IntKind.u64))) (4294967295 : Int))), (14, .dat (.int .u64) (bitsOf IntKind.u64 (fun p q => p &&& q) (IntKind.u64.wrap (lo * 2 ^ min (Int.toNat (IntKind.u64.wrap q6_7)) (IntKind.bits IntKind.u64))) (4294967295 : Int))), (15, .dat (.int .u64) z3), (16, .dat (.int .u64) x.1), (17, .dat (.int .u64) (IntKind.u64.wrap ((IntKind.u64.wrap ((IntKind.u64.wrap ((bitsOf IntKind.u64 (fun p q => p ||| q) (IntKind.u64.wrap (hi * 2 ^ min (Int.toNat (IntKind.u64.wrap q6_7)) (IntKind.bits IntKind.u64))) (Int.fdiv lo (2 ^ min (Int.toNat (IntKind.u64.wrap ((64 : Int) - (IntKind.u64.wrap q6_7)))) (IntKind.bits IntKind.u64)))) * (4294967296 : Int))) + (Int.fdiv (IntKind.u64.wrap (lo * 2 ^ min (Int.toNat (IntKind.u64.wrap q6_7)) (IntKind.bits IntKind.u64))) (2 ^ min (Int.toNat (32 : Int)) (IntKind.bits IntKind.u64))))) - (IntKind.u64.wrap (z3 * (IntKind.u64.wrap (y_ * 2 ^ min (Int.toNat (IntKind.u64.wrap q6_7)) (IntKind.bits IntKind.u64)))))))), (18, .dat (.int .u64) x.2)], [], 0⟩) (fun z => [(4, ⟨[(2, .dat (.int .u64) (IntKind.u64.wrap (y_ * 2 ^ min (Int.toNat (IntKind.u64.wrap q6_7)) (IntKind.bits IntKind.u64)))), (8, .dat (.int .u64) (IntKind.u64.wrap q6_7)), (14, .dat (.int .u64) (bitsOf IntKind.u64 (fun p q => p &&& q) (IntKind.u64.wrap (lo * 2 ^ min (Int.toNat (IntKind.u64.wrap q6_7)) (IntKind.bits IntKind.u64))) (4294967295 : Int))), (15, .dat (.int .u64) z3), (17, .dat (.int .u64) (IntKind.u64.wrap ((IntKind.u64.wrap ((IntKind.u64.wrap ((bitsOf IntKind.u64 (fun p q => p ||| q) (IntKind.u64.wrap (hi * 2 ^ min (Int.toNat (IntKind.u64.wrap q6_7)) (IntKind.bits IntKind.u64))) (Int.fdiv lo (2 ^ min (Int.toNat (IntKind.u64.wrap ((64 : Int) - (IntKind.u64.wrap q6_7)))) (IntKind.bits IntKind.u64)))) * (4294967296 : Int))) + (Int.fdiv (IntKind.u64.wrap (lo * 2 ^ min (Int.toNat (IntKind.u64.wrap q6_7)) (IntKind.bits IntKind.u64))) (2 ^ min (Int.toNat (32 : Int)) (IntKind.bits IntKind.u64))))) - (IntKind.u64.wrap (z3 * (IntKind.u64.wrap (y_ * 2 ^ min (Int.toNat (IntKind.u64.wrap q6_7)) (IntKind.bits IntKind.u64)))))))), (18, .dat (.int .u64) z)], [], 0⟩)]) (loopF (fun go x => f89_l7 lo y_ q6_7 go x.1 x.2)) fuelN ((IntKind.u64.wrap ((IntKind.u64.wrap ((IntKind.u64.wrap ((IntKind.u64.wrap ((bitsOf IntKind.u64 (fun p q => p ||| q) (IntKind.u64.wrap (hi * 2 ^ min (Int.toNat (IntKind.u64.wrap q6_7)) (IntKind.bits IntKind.u64))) (Int.fdiv lo (2 ^ min (Int.toNat (IntKind.u64.wrap ((64 : Int) - (IntKind.u64.wrap q6_7)))) (IntKind.bits IntKind.u64)))) * (4294967296 : Int))) + (Int.fdiv (IntKind.u64.wrap (lo * 2 ^ min (Int.toNat (IntKind.u64.wrap q6_7)) (IntKind.bits IntKind.u64))) (2 ^ min (Int.toNat (32 : Int)) (IntKind.bits IntKind.u64))))) - (IntKind.u64.wrap (z3 * (IntKind.u64.wrap (y_ * 2 ^ min (Int.toNat (IntKind.u64.wrap q6_7)) (IntKind.bits IntKind.u64))))))) - (IntKind.u64.wrap ((IntKind.u64.wrap (Int.tdiv (IntKind.u64.wrap ((IntKind.u64.wrap ((IntKind.u64.wrap ((bitsOf IntKind.u64 (fun p q => p ||| q) (IntKind.u64.wrap (hi * 2 ^ min (Int.toNat (IntKind.u64.wrap q6_7)) (IntKind.bits IntKind.u64))) (Int.fdiv lo (2 ^ min (Int.toNat (IntKind.u64.wrap ((64 : Int) - (IntKind.u64.wrap q6_7)))) (IntKind.bits IntKind.u64)))) * (4294967296 : Int))) + (Int.fdiv (IntKind.u64.wrap (lo * 2 ^ min (Int.toNat (IntKind.u64.wrap q6_7)) (IntKind.bits IntKind.u64))) (2 ^ min (Int.toNat (32 : Int)) (IntKind.bits IntKind.u64))))) - (IntKind.u64.wrap (z3 * (IntKind.u64.wrap (y_ * 2 ^ min (Int.toNat (IntKind.u64.wrap q6_7)) (IntKind.bits IntKind.u64))))))) (Int.fdiv (IntKind.u64.wrap (y_ * 2 ^ min (Int.toNat (IntKind.u64.wrap q6_7)) (IntKind.bits IntKind.u64))) (2 ^ min (Int.toNat (32 : Int)) (IntKind.bits IntKind.u64))))) * (Int.fdiv (IntKind.u64.wrap (y_ * 2 ^ min (Int.toNat (IntKind.u64.wrap q6_7)) (IntKind.bits IntKind.u64))) (2 ^ min (Int.toNat (32 : Int)) (IntKind.bits IntKind.u64))))))), (IntKind.u64.wrap (Int.tdiv (IntKind.u64.wrap ((IntKind.u64.wrap ((IntKind.u64.wrap ((bitsOf IntKind.u64 (fun p q => p ||| q) (IntKind.u64.wrap (hi * 2 ^ min (Int.toNat (IntKind.u64.wrap q6_7)) (IntKind.bits IntKind.u64))) (Int.fdiv lo (2 ^ min (Int.toNat (IntKind.u64.wrap ((64 : Int) - (IntKind.u64.wrap q6_7)))) (IntKind.bits IntKind.u64)))) * (4294967296 : Int))) + (Int.fdiv (IntKind.u64.wrap (lo * 2 ^ min (Int.toNat (IntKind.u64.wrap q6_7)) (IntKind.bits IntKind.u64))) (2 ^ min (Int.toNat (32 : Int)) (IntKind.bits IntKind.u64))))) - (IntKind.u64.wrap (z3 * (IntKind.u64.wrap (y_ * 2 ^ min (Int.toNat (IntKind.u64.wrap q6_7)) (IntKind.bits IntKind.u64))))))) (Int.fdiv (IntKind.u64.wrap (y_ * 2 ^ min (Int.toNat (IntKind.u64.wrap q6_7)) (IntKind.bits IntKind.u64))) (2 ^ min (Int.toNat (32 : Int)) (IntKind.bits IntKind.u64)))))) z7 (And.intro hz7 (And.intro (Exists.intro [] (Exists.intro [] (Exists.intro [] (Exists.intro [] (Exists.intro [] (And.intro rfl (And.intro rfl (And.intro rfl (And.intro rfl (And.intro rfl (And.intro rfl (And.intro rfl (And.intro rfl (And.intro rfl (And.intro rfl (And.intro trivial trivial)))))))))))))))) (And.intro (fun _ _ h => loopZ h) (And.intro (fun m => curI (fun rhat => fun q0 z hF => ?_)) ?_))))
          · have hF : f89_l7 lo y_ q6_7 (loopF (fun go x => f89_l7 lo y_ q6_7 go x.1 x.2) m) rhat q0 = some z := hF
            unfold f89_l7 at hF
            obtain ⟨z8, hz8, hF⟩ := bindE hF
            refine Or.inr ⟨Sum.elim (fun z8a => [(0, ⟨[(2, .dat (.int .u64) (IntKind.u64.wrap (y_ * 2 ^ min (Int.toNat (IntKind.u64.wrap q6_7)) (IntKind.bits IntKind.u64)))), (8, .dat (.int .u64) (IntKind.u64.wrap q6_7)), (9, .dat (.int .u64) (Int.fdiv (IntKind.u64.wrap (y_ * 2 ^ min (Int.toNat (IntKind.u64.wrap q6_7)) (IntKind.bits IntKind.u64))) (2 ^ min (Int.toNat (32 : Int)) (IntKind.bits IntKind.u64)))), (10, .dat (.int .u64) (bitsOf IntKind.u64 (fun p q => p &&& q) (IntKind.u64.wrap (y_ * 2 ^ min (Int.toNat (IntKind.u64.wrap q6_7)) (IntKind.bits IntKind.u64))) (4294967295 : Int))), (14, .dat (.int .u64) (bitsOf IntKind.u64 (fun p q => p &&& q) (IntKind.u64.wrap (lo * 2 ^ min (Int.toNat (IntKind.u64.wrap q6_7)) (IntKind.bits IntKind.u64))) (4294967295 : Int))), (15, .dat (.int .u64) z3), (16, .dat (.int .u64) rhat), (17, .dat (.int .u64) (IntKind.u64.wrap ((IntKind.u64.wrap ((IntKind.u64.wrap ((bitsOf IntKind.u64 (fun p q => p ||| q) (IntKind.u64.wrap (hi * 2 ^ min (Int.toNat (IntKind.u64.wrap q6_7)) (IntKind.bits IntKind.u64))) (Int.fdiv lo (2 ^ min (Int.toNat (IntKind.u64.wrap ((64 : Int) - (IntKind.u64.wrap q6_7)))) (IntKind.bits IntKind.u64)))) * (4294967296 : Int))) + (Int.fdiv (IntKind.u64.wrap (lo * 2 ^ min (Int.toNat (IntKind.u64.wrap q6_7)) (IntKind.bits IntKind.u64))) (2 ^ min (Int.toNat (32 : Int)) (IntKind.bits IntKind.u64))))) - (IntKind.u64.wrap (z3 * (IntKind.u64.wrap (y_ * 2 ^ min (Int.toNat (IntKind.u64.wrap q6_7)) (IntKind.bits IntKind.u64)))))))), (18, .dat (.int .u64) q0)], [], 0⟩)]) (fun z8b => [(4, ⟨[(2, .dat (.int .u64) (IntKind.u64.wrap (y_ * 2 ^ min (Int.toNat (IntKind.u64.wrap q6_7)) (IntKind.bits IntKind.u64)))), (8, .dat (.int .u64) (IntKind.u64.wrap q6_7)), (14, .dat (.int .u64) (bitsOf IntKind.u64 (fun p q => p &&& q) (IntKind.u64.wrap (lo * 2 ^ min (Int.toNat (IntKind.u64.wrap q6_7)) (IntKind.bits IntKind.u64))) (4294967295 : Int))), (15, .dat (.int .u64) z3), (17, .dat (.int .u64) (IntKind.u64.wrap ((IntKind.u64.wrap ((IntKind.u64.wrap ((bitsOf IntKind.u64 (fun p q => p ||| q) (IntKind.u64.wrap (hi * 2 ^ min (Int.toNat (IntKind.u64.wrap q6_7)) (IntKind.bits IntKind.u64))) (Int.fdiv lo (2 ^ min (Int.toNat (IntKind.u64.wrap ((64 : Int) - (IntKind.u64.wrap q6_7)))) (IntKind.bits IntKind.u64)))) * (4294967296 : Int))) + (Int.fdiv (IntKind.u64.wrap (lo * 2 ^ min (Int.toNat (IntKind.u64.wrap q6_7)) (IntKind.bits IntKind.u64))) (2 ^ min (Int.toNat (32 : Int)) (IntKind.bits IntKind.u64))))) - (IntKind.u64.wrap (z3 * (IntKind.u64.wrap (y_ * 2 ^ min (Int.toNat (IntKind.u64.wrap q6_7)) (IntKind.bits IntKind.u64)))))))), (18, .dat (.int .u64) q0)], [], 0⟩)]) z8, ?_, ?_⟩
            · have hF := hz8
              clear hz8
              unfold f89_j8 at hF
              refine Or.inl ?_
              refine condN hF (fun hF => ?_) (fun hF => ?_)
              · refine gdYF ?_
                refine gdYF ?_
                refine gdYF ?_
                refine gdYF ?_
                refine gdYF ?_
                refine gdYF ?_
                refine gdYF ?_
                refine condF ?_
                refine condI hF (fun hF => ?_) (fun hF => ?_)
                · have hz := someE hF
                  subst hz
                  refine Exists.intro [] (Exists.intro [] (Exists.intro [] (Exists.intro [] (Exists.intro [] (And.intro rfl (And.intro rfl (And.intro rfl (And.intro rfl (And.intro rfl (And.intro rfl (And.intro rfl (And.intro rfl (And.intro rfl (And.intro rfl (And.intro trivial trivial)))))))))))))))
                · have hz := someE hF
                  subst hz
                  refine Exists.intro [] (Exists.intro [] (Exists.intro [] (Exists.intro [] (Exists.intro [] (And.intro rfl (And.intro rfl (And.intro rfl (And.intro rfl (And.intro rfl (And.intro rfl (And.intro rfl (And.intro trivial trivial))))))))))))
              · refine gdNF ?_
                refine gdNF ?_
                refine gdNF ?_
                refine gdNF ?_
                refine gdNF ?_
                refine gdNF ?_
                refine gdNF ?_
                refine condT ?_
                refine condT ?_
                have hz := someE hF
                subst hz
                refine Exists.intro [] (Exists.intro [] (Exists.intro [] (Exists.intro [] (Exists.intro [] (And.intro rfl (And.intro rfl (And.intro rfl (And.intro rfl (And.intro rfl (And.intro rfl (And.intro rfl (And.intro rfl (And.intro rfl (And.intro rfl (And.intro trivial trivial)))))))))))))))
            · rcases z8 with z8a | z8b
              · dsimp only [sumF] at hF
                refine And.intro ?_ trivial
                refine Or.inl ?_
                refine Or.inl ?_
                refine Or.inl ?_
                refine condI hF (fun hF => ?_) (fun hF => ?_)
                · have hz := someE hF
                  subst hz
                  refine Exists.intro [] (Exists.intro [] (Exists.intro [] (Exists.intro [] (Exists.intro [] (And.intro rfl (And.intro rfl (And.intro rfl (And.intro rfl (And.intro rfl (And.intro rfl (And.intro rfl (And.intro trivial trivial))))))))))))
                · refine Exists.intro ((IntKind.u64.wrap (rhat + (Int.fdiv (IntKind.u64.wrap (y_ * 2 ^ min (Int.toNat (IntKind.u64.wrap q6_7)) (IntKind.bits IntKind.u64))) (2 ^ min (Int.toNat (32 : Int)) (IntKind.bits IntKind.u64))))), (IntKind.u64.wrap (q0 - (1 : Int)))) (And.intro hF (Exists.intro [] (Exists.intro [] (Exists.intro [] (Exists.intro [] (Exists.intro [] (And.intro rfl (And.intro rfl (And.intro rfl (And.intro rfl (And.intro rfl (And.intro rfl (And.intro rfl (And.intro rfl (And.intro rfl (And.intro rfl (And.intro trivial trivial)))))))))))))))))
              · dsimp only [sumF] at hF
                refine And.intro ?_ trivial
                have hz := someE hF
                subst hz
                refine Exists.intro [] (Exists.intro [] (Exists.intro [] (Exists.intro [] (Exists.intro [] (And.intro rfl (And.intro rfl (And.intro rfl (And.intro rfl (And.intro rfl (And.intro rfl (And.intro rfl (And.intro trivial trivial))))))))))))
          · refine And.intro ?_ trivial
            refine Or.inl ?_
            refine guardI hF (fun hF => ?_)
            have hy := someE hF
            subst hy
            refine And.intro rfl (Exists.intro [] (Exists.intro [] (Exists.intro [] (Exists.intro [] (Exists.intro [] (And.intro rfl (And.intro rfl (And.intro rfl (And.intro trivial trivial)))))))))
theorem C89_holds : C89.Holds Try.prog 89 := holds_of_vc tab_ok mixed (fn := Try.f89) (by kernel_rfl) rfl C89 (fun x y hF => C89_vc x.1 x.2.1 x.2.2 y hF)
theorem f89_in : ∃ fn, Try.prog.funcs[89]? = some fn ∧ fn.body.isSome = true ∧ (fn.name == "runtime.NumGoroutine") = false := ⟨Try.f89, by kernel_rfl, by kernel_rfl, by kernel_rfl⟩
end Go.Proofs
namespace Go.Proofs
open Go.AM
-- carousel/fix.Div
def f85_j3 (r2 : Int) (r4 : Int × Int) : Option Bool :=
  bif (decide (r4.2 > (IntKind.u64.wrap (r2 - r4.2)))) then
    some true
  else
    bif (r4.2 == (IntKind.u64.wrap (r2 - r4.2))) then
      some ((bitsOf IntKind.u64 (fun p q => p &&& q) r4.1 (1 : Int)) == (1 : Int))
    else
      some false
def f85_j2 (r2 : Int) (r4 : Int × Int) : Option (Int × Int) :=
  bindF (f85_j3 r2 r4) fun z8 =>
  bif z8 then
    bindF (add64 r4.1 (1 : Int) (0 : Int)) fun r9 =>
    some (r9.1, r9.2)
  else
    some (r4.1, (0 : Int))
def f85 (a : Int) (b : Int) : Option Int :=
  bif (b == (0 : Int)) then
    bif (decide (a > (0 : Int))) then
      some (9223372036854775807 : Int)
    else
      bif (decide (a < (0 : Int))) then
        some (-9223372036854775808 : Int)
      else
        some (0 : Int)
  else
    bindF (f77 a) fun r1 =>
    bindF (f77 b) fun r2 =>
    bif (decide ((Int.fdiv r1 (2 ^ min (Int.toNat (32 : Int)) (IntKind.bits IntKind.u64))) ≥ r2)) then
      bindF (f79 (1 : Int) (0 : Int) (!((decide (a < (0 : Int))) == (decide (b < (0 : Int)))))) fun r3 =>
      some r3
    else
      bindF (f89 (Int.fdiv r1 (2 ^ min (Int.toNat (32 : Int)) (IntKind.bits IntKind.u64))) (IntKind.u64.wrap (r1 * 2 ^ min (Int.toNat (32 : Int)) (IntKind.bits IntKind.u64))) r2) fun r4 =>
      bindF (f85_j2 r2 r4) fun z7 =>
      bindF (f79 z7.2 z7.1 (!((decide (a < (0 : Int))) == (decide (b < (0 : Int)))))) fun r10 =>
      some r10
def C85 : Con where
  X := Int × Int
  Y := Int
  e := 0
  args x := [.dat (.int .i64) x.1, .dat (.int .i64) x.2]
  hin x := []
  F x := f85 x.1 x.2
  ret y := [.dat (.int .i64) y]
  hout y := []
  nout := 0
theorem C85_vc (a : Int) (b : Int) (y : Int) (hF : f85 a b = some y) : vc Try.prog tab Try.f85.ntmps 0 (match Try.f85.body with | some c => c | none => .skip) (retK tab C85 Try.f85.results.toList y) (C85.shIn (a, b)).st := by
  unfold f85 at hF
  refine Or.inl ?_
  refine Or.inl ?_
  refine Or.inl ?_
  refine condI hF (fun hF => ?_) (fun hF => ?_)
  · refine Or.inl ?_
    refine Or.inl ?_
    refine condI hF (fun hF => ?_) (fun hF => ?_)
    · refine Or.inl ?_
      have hy := someE hF
      subst hy
      refine And.intro rfl (Exists.intro [] (Exists.intro [] (Exists.intro [] (Exists.intro [] (Exists.intro [] (And.intro rfl (And.intro rfl (And.intro trivial trivial))))))))
    · refine Or.inl ?_
      refine condI hF (fun hF => ?_) (fun hF => ?_)
      · refine Or.inl ?_
        have hy := someE hF
        subst hy
        refine And.intro rfl (Exists.intro [] (Exists.intro [] (Exists.intro [] (Exists.intro [] (Exists.intro [] (And.intro rfl (And.intro rfl (And.intro trivial trivial))))))))
      · refine Or.inl ?_
        have hy := someE hF
        subst hy
        refine And.intro rfl (Exists.intro [] (Exists.intro [] (Exists.intro [] (Exists.intro [] (Exists.intro [] (And.intro rfl (And.intro rfl (And.intro trivial trivial))))))))
  · refine Or.inl ?_
    obtain ⟨r1, hr1, hF⟩ := bindE hF
    refine Or.inl (And.intro f77_in (callV0 (callI C77 a r1 [] false C77_holds hr1 rfl rfl ?_)))
    refine (And.intro rfl (And.intro (fun h => nomatch h) (And.intro rfl (And.intro rfl (And.intro trivial (And.intro trivial ?_))))))
    obtain ⟨r2, hr2, hF⟩ := bindE hF
    refine Or.inl (And.intro f77_in (callV0 (callI C77 b r2 [] false C77_holds hr2 rfl rfl ?_)))
    refine (And.intro rfl (And.intro (fun h => nomatch h) (And.intro rfl (And.intro rfl (And.intro trivial (And.intro trivial ?_))))))
    refine Or.inl ?_
    refine Or.inl ?_
    refine And.intro (by decide) ?_
    refine And.intro (by decide) ?_
    refine Or.inl ?_
    refine Or.inl ?_
    refine condI hF (fun hF => ?_) (fun hF => ?_)
    · refine Or.inl ?_
      obtain ⟨r3, hr3, hF⟩ := bindE hF
      refine Or.inl (And.intro f79_in (callV0 (callI C79 ((1 : Int), (0 : Int), (!((decide (a < (0 : Int))) == (decide (b < (0 : Int)))))) r3 [] false C79_holds hr3 rfl rfl ?_)))
      refine (And.intro rfl (And.intro rfl (And.intro rfl (And.intro (fun h => nomatch h) (And.intro rfl (And.intro rfl (And.intro trivial (And.intro trivial ?_))))))))
      have hy := someE hF
      subst hy
      refine And.intro rfl (Exists.intro [] (Exists.intro [] (Exists.intro [] (Exists.intro [] (Exists.intro [] (And.intro rfl (And.intro rfl (And.intro trivial trivial))))))))
    · refine Or.inl ?_
      obtain ⟨r4, hr4, hF⟩ := bindE hF
      refine Or.inl (And.intro f89_in (callV0 (callI C89 ((Int.fdiv r1 (2 ^ min (Int.toNat (32 : Int)) (IntKind.bits IntKind.u64))), (IntKind.u64.wrap (r1 * 2 ^ min (Int.toNat (32 : Int)) (IntKind.bits IntKind.u64))), r2) r4 [] false C89_holds hr4 rfl rfl ?_)))
      refine (And.intro rfl (And.intro rfl (And.intro rfl (And.intro (fun h => nomatch h) (And.intro rfl (And.intro rfl (And.intro trivial (And.intro trivial ?_))))))))
      refine Or.inl ?_
      obtain ⟨z7, hz7, hF⟩ := bindE hF
      refine Or.inr ⟨[(0, ⟨[(7, .dat .bool (!((decide (a < (0 : Int))) == (decide (b < (0 : Int)))))), (10, .dat (.int .u64) z7.1), (12, .dat (.int .u64) z7.2)], [], 0⟩)], ?_, ?_⟩
      · have hF := hz7
        clear hz7
        unfold f85_j2 at hF
        obtain ⟨z8, hz8, hF⟩ := bindE hF
        refine Or.inr ⟨[(0, ⟨[(7, .dat .bool (!((decide (a < (0 : Int))) == (decide (b < (0 : Int)))))), (10, .dat (.int .u64) r4.1), (12, .dat (.int .u64) (0 : Int)), (62, .dat .bool z8)], [], 0⟩)], ?_, ?_⟩
        · have hF := hz8
          clear hz8
          unfold f85_j3 at hF
          refine condN hF (fun hF => ?_) (fun hF => ?_)
          · refine gdYF ?_
            refine gdYF ?_
            refine gdYF ?_
            refine gdYF ?_
            refine gdYF ?_
            refine condI hF (fun hF => ?_) (fun hF => ?_)
            · refine gdYT ?_
              refine gdYT ?_
              refine gdYF ?_
              refine condT ?_
              refine condF ?_
              have hz := someE hF
              subst hz
              refine Exists.intro [] (Exists.intro [] (Exists.intro [] (Exists.intro [] (Exists.intro [] (And.intro rfl (And.intro rfl (And.intro rfl (And.intro rfl (And.intro rfl (And.intro trivial trivial))))))))))
            · refine gdNT ?_
              refine gdNT ?_
              refine gdYF ?_
              refine condF ?_
              refine condF ?_
              have hz := someE hF
              subst hz
              refine Exists.intro [] (Exists.intro [] (Exists.intro [] (Exists.intro [] (Exists.intro [] (And.intro rfl (And.intro rfl (And.intro rfl (And.intro rfl (And.intro rfl (And.intro trivial trivial))))))))))
          · refine gdNF ?_
            refine gdNF ?_
            refine gdNF ?_
            refine gdNF ?_
            refine gdNF ?_
            refine gdNF ?_
            refine condT ?_
            have hz := someE hF
            subst hz
            refine Exists.intro [] (Exists.intro [] (Exists.intro [] (Exists.intro [] (Exists.intro [] (And.intro rfl (And.intro rfl (And.intro rfl (And.intro rfl (And.intro rfl (And.intro trivial trivial))))))))))
        · refine And.intro ?_ trivial
          refine condI hF (fun hF => ?_) (fun hF => ?_)
          · obtain ⟨r9, hr9, hF⟩ := bindE hF
            refine Or.inr ⟨ext3 add64, [r9.1, r9.2], add64_ok, And.intro (ext3I hr9) ?_⟩
            have hz := someE hF
            subst hz
            refine Exists.intro [] (Exists.intro [] (Exists.intro [] (Exists.intro [] (Exists.intro [] (And.intro rfl (And.intro rfl (And.intro rfl (And.intro rfl (And.intro trivial trivial)))))))))
          · have hz := someE hF
            subst hz
            refine Exists.intro [] (Exists.intro [] (Exists.intro [] (Exists.intro [] (Exists.intro [] (And.intro rfl (And.intro rfl (And.intro rfl (And.intro rfl (And.intro trivial trivial)))))))))
      · refine And.intro ?_ trivial
        refine Or.inl ?_
        obtain ⟨r10, hr10, hF⟩ := bindE hF
        refine Or.inl (And.intro f79_in (callV0 (callI C79 (z7.2, z7.1, (!((decide (a < (0 : Int))) == (decide (b < (0 : Int)))))) r10 [] false C79_holds hr10 rfl rfl ?_)))
        refine (And.intro rfl (And.intro rfl (And.intro rfl (And.intro (fun h => nomatch h) (And.intro rfl (And.intro rfl (And.intro trivial (And.intro trivial ?_))))))))
        have hy := someE hF
        subst hy
        refine And.intro rfl (Exists.intro [] (Exists.intro [] (Exists.intro [] (Exists.intro [] (Exists.intro [] (And.intro rfl (And.intro rfl (And.intro trivial trivial))))))))
theorem C85_holds : C85.Holds Try.prog 85 := holds_of_vc tab_ok mixed (fn := Try.f85) (by kernel_rfl) rfl C85 (fun x y hF => C85_vc x.1 x.2 y hF)
theorem f85_in : ∃ fn, Try.prog.funcs[85]? = some fn ∧ fn.body.isSome = true ∧ (fn.name == "runtime.NumGoroutine") = false := ⟨Try.f85, by kernel_rfl, by kernel_rfl, by kernel_rfl⟩
end Go.Proofs
namespace Go.Proofs
open Go.AM
-- carousel/wide.magnitude
def f87 (a : Int × Int) : Option (Int × Int × Bool) :=
  bif (decide (a.1 < (0 : Int))) then
    bindF (f90 (a.1, a.2)) fun q4_7 =>
    some ((IntKind.u64.wrap q4_7.1), q4_7.2, true)
  else
    some ((IntKind.u64.wrap a.1), a.2, false)
def C87 : Con where
  X := Int × Int
  Y := Int × Int × Bool
  e := 0
  args x := [.dat (.p (.int .i64) (.int .u64)) x]
  hin x := []
  F x := f87 x
  ret y := [.dat (.int .u64) y.1, .dat (.int .u64) y.2.1, .dat .bool y.2.2]
  hout y := []
  nout := 0
theorem C87_vc (a : Int × Int) (y : Int × Int × Bool) (hF : f87 a = some y) : vc Try.prog tab Try.f87.ntmps 0 (match Try.f87.body with | some c => c | none => .skip) (retK tab C87 Try.f87.results.toList y) (C87.shIn a).st := by
  unfold f87 at hF
  refine Or.inl ?_
  refine Or.inl ?_
  refine Or.inl ?_
  refine condI hF (fun hF => ?_) (fun hF => ?_)
  · refine Or.inl ?_
    obtain ⟨q4_7, hq4_7, hF⟩ := bindE hF
    refine Or.inl (And.intro f90_in (callV0 (callI C90 (a.1, a.2) q4_7 [] false C90_holds hq4_7 rfl rfl ?_)))
    refine (And.intro rfl (And.intro rfl (And.intro (fun h => nomatch h) (And.intro rfl (And.intro rfl (And.intro trivial (And.intro trivial ?_)))))))
    refine Or.inl ?_
    refine Or.inl ?_
    refine Exists.intro (.take 0 (.take 1 (.take 2 (.take 3 (.take 4 (.take 5 (.take 6 (.take 7 .done)))))))) (Exists.intro [] (Exists.intro [] (And.intro rfl ?_)))
    have hy := someE hF
    subst hy
    refine And.intro rfl (Exists.intro [] (Exists.intro [] (Exists.intro [] (Exists.intro [] (Exists.intro [] (And.intro rfl (And.intro rfl (And.intro rfl (And.intro rfl (And.intro trivial trivial))))))))))
  · refine Or.inl ?_
    refine Exists.intro (.take 0 (.take 1 (.take 2 (.take 3 (.take 4 (.take 5 (.take 6 (.take 7 .done)))))))) (Exists.intro [] (Exists.intro [] (And.intro rfl ?_)))
    have hy := someE hF
    subst hy
    refine And.intro rfl (Exists.intro [] (Exists.intro [] (Exists.intro [] (Exists.intro [] (Exists.intro [] (And.intro rfl (And.intro rfl (And.intro rfl (And.intro rfl (And.intro trivial trivial))))))))))
theorem C87_holds : C87.Holds Try.prog 87 := holds_of_vc tab_ok mixed (fn := Try.f87) (by kernel_rfl) rfl C87 (fun x y hF => C87_vc x y hF)
theorem f87_in : ∃ fn, Try.prog.funcs[87]? = some fn ∧ fn.body.isSome = true ∧ (fn.name == "runtime.NumGoroutine") = false := ⟨Try.f87, by kernel_rfl, by kernel_rfl, by kernel_rfl⟩
end Go.Proofs
namespace Go.Proofs
open Go.AM
-- carousel/wide.Over
def f72_j3 (r4 : Int) (q6_7 : Int × Int) : Option Bool :=
  bif (decide (q6_7.2 > (IntKind.u64.wrap (r4 - q6_7.2)))) then
    some true
  else
    bif (q6_7.2 == (IntKind.u64.wrap (r4 - q6_7.2))) then
      some ((bitsOf IntKind.u64 (fun p q => p &&& q) q6_7.1 (1 : Int)) == (1 : Int))
    else
      some false
def f72_j2 (r3 : Int × Int × Bool) (r4 : Int) (q6_7 : Int × Int) : Option (Int × Int) :=
  bindF (f72_j3 r4 q6_7) fun z8 =>
  bif z8 then
    bindF (add64 q6_7.1 (1 : Int) (0 : Int)) fun r9 =>
    some ((IntKind.u64.wrap ((IntKind.u64.wrap (Int.tdiv r3.1 r4)) + r9.2)), r9.1)
  else
    some ((IntKind.u64.wrap (Int.tdiv r3.1 r4)), q6_7.1)
def f72 (a : Int × Int) (n : Int) : Option Int :=
  bif (n == (0 : Int)) then
    bindF (f86 (a.1, a.2) ((0 : Int), (0 : Int))) fun r1 =>
    bindF (f85 r1 (0 : Int)) fun r2 =>
    some r2
  else
    bindF (f87 (a.1, a.2)) fun r3 =>
    bindF (f88 n) fun r4 =>
    guardF (r4 ≠ 0) <|
    guardF (r4 ≠ 0) <|
    bindF (f89 (Int.tmod r3.1 r4) r3.2.1 r4) fun q6_7 =>
    bindF (f72_j2 r3 r4 q6_7) fun z7 =>
    bif (!(r3.2.2 == (decide (n < (0 : Int))))) then
      bindF (f90 ((IntKind.i64.wrap (if (9223372036854775807 : Int) < z7.1 then (9223372036854775807 : Int) else z7.1)), z7.2)) fun r10 =>
      bindF (f70 (r10.1, r10.2)) fun r11 =>
      some r11
    else
      bindF (f70 ((IntKind.i64.wrap (if (9223372036854775807 : Int) < z7.1 then (9223372036854775807 : Int) else z7.1)), z7.2)) fun r12 =>
      some r12
def C72 : Con where
  X := (Int × Int) × Int
  Y := Int
  e := 0
  args x := [.dat (.p (.int .i64) (.int .u64)) x.1, .dat (.int .i64) x.2]
  hin x := []
  F x := f72 x.1 x.2
  ret y := [.dat (.int .i64) y]
  hout y := []
  nout := 0
theorem C72_vc (a : Int × Int) (n : Int) (y : Int) (hF : f72 a n = some y) : vc Try.prog tab Try.f72.ntmps 0 (match Try.f72.body with | some c => c | none => .skip) (retK tab C72 Try.f72.results.toList y) (C72.shIn (a, n)).st := by
  unfold f72 at hF
  refine Or.inl ?_
  refine Or.inl ?_
  refine Or.inl ?_
  refine condI hF (fun hF => ?_) (fun hF => ?_)
  · refine Or.inl ?_
    obtain ⟨r1, hr1, hF⟩ := bindE hF
    refine Or.inl (And.intro f86_in (callV0 (callI C86 ((a.1, a.2), ((0 : Int), (0 : Int))) r1 [] false C86_holds hr1 rfl rfl ?_)))
    refine (And.intro rfl (And.intro rfl (And.intro rfl (And.intro rfl (And.intro (fun h => nomatch h) (And.intro rfl (And.intro rfl (And.intro trivial (And.intro trivial ?_)))))))))
    obtain ⟨r2, hr2, hF⟩ := bindE hF
    refine Or.inl (And.intro f85_in (callV0 (callI C85 (r1, (0 : Int)) r2 [] false C85_holds hr2 rfl rfl ?_)))
    refine (And.intro rfl (And.intro rfl (And.intro (fun h => nomatch h) (And.intro rfl (And.intro rfl (And.intro trivial (And.intro trivial ?_)))))))
    have hy := someE hF
    subst hy
    refine And.intro rfl (Exists.intro [] (Exists.intro [] (Exists.intro [] (Exists.intro [] (Exists.intro [] (And.intro rfl (And.intro rfl (And.intro trivial trivial))))))))
  · refine Or.inl ?_
    obtain ⟨r3, hr3, hF⟩ := bindE hF
    refine Or.inl (And.intro f87_in (callV0 (callI C87 (a.1, a.2) r3 [] false C87_holds hr3 rfl rfl ?_)))
    refine (And.intro rfl (And.intro rfl (And.intro (fun h => nomatch h) (And.intro rfl (And.intro rfl (And.intro trivial (And.intro trivial ?_)))))))
    refine Or.inl ?_
    obtain ⟨r4, hr4, hF⟩ := bindE hF
    refine Or.inl (And.intro f88_in (callV0 (callI C88 n r4 [] false C88_holds hr4 rfl rfl ?_)))
    refine (And.intro rfl (And.intro (fun h => nomatch h) (And.intro rfl (And.intro rfl (And.intro trivial (And.intro trivial ?_))))))
    refine Or.inl ?_
    refine Or.inl ?_
    refine Exists.intro (.take 0 (.take 1 (.take 2 (.take 3 (.take 4 (.take 5 (.take 6 (.take 7 .done)))))))) (Exists.intro [] (Exists.intro [] (And.intro rfl ?_)))
    refine guardI hF (fun hF => ?_)
    refine guardI hF (fun hF => ?_)
    refine Or.inl ?_
    obtain ⟨q6_7, hq6_7, hF⟩ := bindE hF
    refine Or.inl (And.intro f89_in (callV0 (callI C89 ((Int.tmod r3.1 r4), r3.2.1, r4) q6_7 [] false C89_holds hq6_7 rfl rfl ?_)))
    refine (And.intro rfl (And.intro rfl (And.intro rfl (And.intro (fun h => nomatch h) (And.intro rfl (And.intro rfl (And.intro trivial (And.intro trivial ?_))))))))
    obtain ⟨z7, hz7, hF⟩ := bindE hF
    refine Or.inr ⟨[(0, ⟨[(7, .dat .bool (!(r3.2.2 == (decide (n < (0 : Int)))))), (9, .dat (.int .u64) z7.1), (11, .dat (.int .u64) z7.2)], [], 0⟩)], ?_, ?_⟩
    · have hF := hz7
      clear hz7
      unfold f72_j2 at hF
      obtain ⟨z8, hz8, hF⟩ := bindE hF
      refine Or.inr ⟨[(0, ⟨[(7, .dat .bool (!(r3.2.2 == (decide (n < (0 : Int)))))), (9, .dat (.int .u64) (IntKind.u64.wrap (Int.tdiv r3.1 r4))), (11, .dat (.int .u64) q6_7.1), (61, .dat .bool z8)], [], 0⟩)], ?_, ?_⟩
      · have hF := hz8
        clear hz8
        unfold f72_j3 at hF
        refine condN hF (fun hF => ?_) (fun hF => ?_)
        · refine gdYF ?_
          refine gdYF ?_
          refine gdYF ?_
          refine gdYF ?_
          refine gdYF ?_
          refine condI hF (fun hF => ?_) (fun hF => ?_)
          · refine gdYT ?_
            refine gdYT ?_
            refine gdYF ?_
            refine condT ?_
            refine condF ?_
            have hz := someE hF
            subst hz
            refine Exists.intro [] (Exists.intro [] (Exists.intro [] (Exists.intro [] (Exists.intro [] (And.intro rfl (And.intro rfl (And.intro rfl (And.intro rfl (And.intro rfl (And.intro trivial trivial))))))))))
          · refine gdNT ?_
            refine gdNT ?_
            refine gdYF ?_
            refine condF ?_
            refine condF ?_
            have hz := someE hF
            subst hz
            refine Exists.intro [] (Exists.intro [] (Exists.intro [] (Exists.intro [] (Exists.intro [] (And.intro rfl (And.intro rfl (And.intro rfl (And.intro rfl (And.intro rfl (And.intro trivial trivial))))))))))
        · refine gdNF ?_
          refine gdNF ?_
          refine gdNF ?_
          refine gdNF ?_
          refine gdNF ?_
          refine gdNF ?_
          refine condT ?_
          have hz := someE hF
          subst hz
          refine Exists.intro [] (Exists.intro [] (Exists.intro [] (Exists.intro [] (Exists.intro [] (And.intro rfl (And.intro rfl (And.intro rfl (And.intro rfl (And.intro rfl (And.intro trivial trivial))))))))))
      · refine And.intro ?_ trivial
        refine condI hF (fun hF => ?_) (fun hF => ?_)
        · refine Or.inl ?_
          refine Or.inl ?_
          obtain ⟨r9, hr9, hF⟩ := bindE hF
          refine Or.inr ⟨ext3 add64, [r9.1, r9.2], add64_ok, And.intro (ext3I hr9) ?_⟩
          have hz := someE hF
          subst hz
          refine Exists.intro [] (Exists.intro [] (Exists.intro [] (Exists.intro [] (Exists.intro [] (And.intro rfl (And.intro rfl (And.intro rfl (And.intro rfl (And.intro trivial trivial)))))))))
        · have hz := someE hF
          subst hz
          refine Exists.intro [] (Exists.intro [] (Exists.intro [] (Exists.intro [] (Exists.intro [] (And.intro rfl (And.intro rfl (And.intro rfl (And.intro rfl (And.intro trivial trivial)))))))))
    · refine And.intro ?_ trivial
      refine Or.inl ?_
      refine Or.inl ?_
      refine Or.inl ?_
      refine Or.inl ?_
      refine condI hF (fun hF => ?_) (fun hF => ?_)
      · refine Or.inl ?_
        obtain ⟨r10, hr10, hF⟩ := bindE hF
        refine Or.inl (And.intro f90_in (callV0 (callI C90 ((IntKind.i64.wrap (if (9223372036854775807 : Int) < z7.1 then (9223372036854775807 : Int) else z7.1)), z7.2) r10 [] false C90_holds hr10 rfl rfl ?_)))
        refine (And.intro rfl (And.intro rfl (And.intro (fun h => nomatch h) (And.intro rfl (And.intro rfl (And.intro trivial (And.intro trivial ?_)))))))
        obtain ⟨r11, hr11, hF⟩ := bindE hF
        refine Or.inl (And.intro f70_in (callV0 (callI C70 (r10.1, r10.2) r11 [] false C70_holds hr11 rfl rfl ?_)))
        refine (And.intro rfl (And.intro rfl (And.intro (fun h => nomatch h) (And.intro rfl (And.intro rfl (And.intro trivial (And.intro trivial ?_)))))))
        have hy := someE hF
        subst hy
        refine And.intro rfl (Exists.intro [] (Exists.intro [] (Exists.intro [] (Exists.intro [] (Exists.intro [] (And.intro rfl (And.intro rfl (And.intro trivial trivial))))))))
      · refine Or.inl ?_
        obtain ⟨r12, hr12, hF⟩ := bindE hF
        refine Or.inl (And.intro f70_in (callV0 (callI C70 ((IntKind.i64.wrap (if (9223372036854775807 : Int) < z7.1 then (9223372036854775807 : Int) else z7.1)), z7.2) r12 [] false C70_holds hr12 rfl rfl ?_)))
        refine (And.intro rfl (And.intro rfl (And.intro (fun h => nomatch h) (And.intro rfl (And.intro rfl (And.intro trivial (And.intro trivial ?_)))))))
        have hy := someE hF
        subst hy
        refine And.intro rfl (Exists.intro [] (Exists.intro [] (Exists.intro [] (Exists.intro [] (Exists.intro [] (And.intro rfl (And.intro rfl (And.intro trivial trivial))))))))
theorem C72_holds : C72.Holds Try.prog 72 := holds_of_vc tab_ok mixed (fn := Try.f72) (by kernel_rfl) rfl C72 (fun x y hF => C72_vc x.1 x.2 y hF)
theorem f72_in : ∃ fn, Try.prog.funcs[72]? = some fn ∧ fn.body.isSome = true ∧ (fn.name == "runtime.NumGoroutine") = false := ⟨Try.f72, by kernel_rfl, by kernel_rfl, by kernel_rfl⟩
end Go.Proofs
namespace Go.Proofs
open Go.AM
-- carousel/matm.Mean
def f51 (a : (List Int) × (List Int)) : Option (Int × Int) :=
  bindF (f14 (a.1, a.2)) fun q3_8 =>
  bif (!q3_8) then
    some ((0 : Int), (1 : Int))
  else
    bindF (f71 a.2) fun q3_2 =>
    bindF (f72 (q3_2.1, q3_2.2) (List.length a.2 : Int)) fun q3_6 =>
    some (q3_6, (0 : Int))
def C51 : Con where
  X := (List Int) × (List Int)
  Y := Int × Int
  e := 0
  args x := [.dat (.p (.sl (.int .i64)) (.sl (.int .i64))) x]
  hin x := []
  F x := f51 x
  ret y := [.dat (.int .i64) y.1, .dat (.int .i64) y.2]
  hout y := []
  nout := 0
theorem C51_vc (a : (List Int) × (List Int)) (y : Int × Int) (hF : f51 a = some y) : vc Try.prog tab Try.f51.ntmps 0 (match Try.f51.body with | some c => c | none => .skip) (retK tab C51 Try.f51.results.toList y) (C51.shIn a).st := by
  unfold f51 at hF
  refine Or.inl ?_
  refine Or.inl ?_
  refine Or.inl ?_
  obtain ⟨q3_8, hq3_8, hF⟩ := bindE hF
  refine Or.inl (And.intro f14_in (callV0 (callI C14 (a.1, a.2) q3_8 [] false C14_holds hq3_8 rfl rfl ?_)))
  refine (And.intro rfl (And.intro rfl (And.intro (fun h => nomatch h) (And.intro rfl (And.intro rfl (And.intro trivial (And.intro trivial ?_)))))))
  refine condI hF (fun hF => ?_) (fun hF => ?_)
  · refine Or.inl ?_
    have hy := someE hF
    subst hy
    refine And.intro rfl (Exists.intro [] (Exists.intro [] (Exists.intro [] (Exists.intro [] (Exists.intro [] (And.intro rfl (And.intro rfl (And.intro rfl (And.intro trivial trivial)))))))))
  · refine Or.inl ?_
    refine Exists.intro (.take 0 (.take 1 (.take 3 (.take 4 (.take 5 (.alt 2 (.alt 6 (.take 7 (.take 8 .done)) .done) .done)))))) (Exists.intro [] (Exists.intro [] (And.intro rfl ?_)))
    refine And.intro trivial ?_
    obtain ⟨q3_2, hq3_2, hF⟩ := bindE hF
    refine Or.inl (And.intro f71_in (callV0 (callI C71 a.2 q3_2 [] false C71_holds hq3_2 rfl rfl ?_)))
    refine (And.intro rfl (And.intro (fun h => nomatch h) (And.intro rfl (And.intro rfl (And.intro trivial (And.intro trivial ?_))))))
    refine And.intro trivial ?_
    obtain ⟨q3_6, hq3_6, hF⟩ := bindE hF
    refine Or.inl (And.intro f72_in (callV0 (callI C72 ((q3_2.1, q3_2.2), (List.length a.2 : Int)) q3_6 [] false C72_holds hq3_6 rfl rfl ?_)))
    refine (And.intro rfl (And.intro rfl (And.intro rfl (And.intro (fun h => nomatch h) (And.intro rfl (And.intro rfl (And.intro trivial (And.intro trivial ?_))))))))
    have hy := someE hF
    subst hy
    refine And.intro rfl (Exists.intro [] (Exists.intro [] (Exists.intro [] (Exists.intro [] (Exists.intro [] (And.intro rfl (And.intro rfl (And.intro rfl (And.intro trivial trivial)))))))))
theorem C51_holds : C51.Holds Try.prog 51 := holds_of_vc tab_ok mixed (fn := Try.f51) (by kernel_rfl) rfl C51 (fun x y hF => C51_vc x y hF)
theorem f51_in : ∃ fn, Try.prog.funcs[51]? = some fn ∧ fn.body.isSome = true ∧ (fn.name == "runtime.NumGoroutine") = false := ⟨Try.f51, by kernel_rfl, by kernel_rfl, by kernel_rfl⟩
end Go.Proofs
namespace Go.Proofs
open Go.AM
-- carousel/act.good
def f73 (kind : Int) : Option Bool :=
  bif (decide (kind ≥ (1 : Int))) then
    some (decide (kind ≤ (5 : Int)))
  else
    some false
def C73 : Con where
  X := Int
  Y := Bool
  e := 0
  args x := [.dat (.int .i64) x]
  hin x := []
  F x := f73 x
  ret y := [.dat .bool y]
  hout y := []
  nout := 0
theorem C73_vc (kind : Int) (y : Bool) (hF : f73 kind = some y) : vc Try.prog tab Try.f73.ntmps 0 (match Try.f73.body with | some c => c | none => .skip) (retK tab C73 Try.f73.results.toList y) (C73.shIn kind).st := by
  unfold f73 at hF
  refine Or.inl ?_
  refine Or.inl ?_
  refine condI hF (fun hF => ?_) (fun hF => ?_)
  · refine gdYT ?_
    refine condT ?_
    have hy := someE hF
    subst hy
    refine And.intro rfl (Exists.intro [] (Exists.intro [] (Exists.intro [] (Exists.intro [] (Exists.intro [] (And.intro rfl (And.intro rfl (And.intro trivial trivial))))))))
  · refine gdNT ?_
    refine condF ?_
    have hy := someE hF
    subst hy
    refine And.intro rfl (Exists.intro [] (Exists.intro [] (Exists.intro [] (Exists.intro [] (Exists.intro [] (And.intro rfl (And.intro rfl (And.intro trivial trivial))))))))
theorem C73_holds : C73.Holds Try.prog 73 := holds_of_vc tab_ok mixed (fn := Try.f73) (by kernel_rfl) rfl C73 (fun x y hF => C73_vc x y hF)
theorem f73_in : ∃ fn, Try.prog.funcs[73]? = some fn ∧ fn.body.isSome = true ∧ (fn.name == "runtime.NumGoroutine") = false := ⟨Try.f73, by kernel_rfl, by kernel_rfl, by kernel_rfl⟩
end Go.Proofs
namespace Go.Proofs
open Go.AM
-- carousel/fix.Of
def f91 (n : Int) : Option Int :=
  bif (decide (n ≥ (2147483648 : Int))) then
    some (9223372036854775807 : Int)
  else
    bif (decide (n < (-2147483648 : Int))) then
      some (-9223372036854775808 : Int)
    else
      some (IntKind.i64.wrap (n * 2 ^ min (Int.toNat (32 : Int)) (IntKind.bits IntKind.i64)))
def C91 : Con where
  X := Int
  Y := Int
  e := 0
  args x := [.dat (.int .i64) x]
  hin x := []
  F x := f91 x
  ret y := [.dat (.int .i64) y]
  hout y := []
  nout := 0
theorem C91_vc (n : Int) (y : Int) (hF : f91 n = some y) : vc Try.prog tab Try.f91.ntmps 0 (match Try.f91.body with | some c => c | none => .skip) (retK tab C91 Try.f91.results.toList y) (C91.shIn n).st := by
  unfold f91 at hF
  refine Or.inl ?_
  refine Or.inl ?_
  refine Or.inl ?_
  refine condI hF (fun hF => ?_) (fun hF => ?_)
  · refine Or.inl ?_
    have hy := someE hF
    subst hy
    refine And.intro rfl (Exists.intro [] (Exists.intro [] (Exists.intro [] (Exists.intro [] (Exists.intro [] (And.intro rfl (And.intro rfl (And.intro trivial trivial))))))))
  · refine Or.inl ?_
    refine condI hF (fun hF => ?_) (fun hF => ?_)
    · refine Or.inl ?_
      have hy := someE hF
      subst hy
      refine And.intro rfl (Exists.intro [] (Exists.intro [] (Exists.intro [] (Exists.intro [] (Exists.intro [] (And.intro rfl (And.intro rfl (And.intro trivial trivial))))))))
    · refine Or.inl ?_
      refine And.intro (by decide) ?_
      have hy := someE hF
      subst hy
      refine And.intro rfl (Exists.intro [] (Exists.intro [] (Exists.intro [] (Exists.intro [] (Exists.intro [] (And.intro rfl (And.intro rfl (And.intro trivial trivial))))))))
theorem C91_holds : C91.Holds Try.prog 91 := holds_of_vc tab_ok mixed (fn := Try.f91) (by kernel_rfl) rfl C91 (fun x y hF => C91_vc x y hF)
theorem f91_in : ∃ fn, Try.prog.funcs[91]? = some fn ∧ fn.body.isSome = true ∧ (fn.name == "runtime.NumGoroutine") = false := ⟨Try.f91, by kernel_rfl, by kernel_rfl, by kernel_rfl⟩
end Go.Proofs
namespace Go.Proofs
open Go.AM
-- carousel/act.within
def f92 (x_ : Int) (lo : Int) (hi : Int) : Option Int :=
  some (if hi < (if lo > x_ then lo else x_) then hi else (if lo > x_ then lo else x_))
def C92 : Con where
  X := Int × Int × Int
  Y := Int
  e := 0
  args x := [.dat (.int .i64) x.1, .dat (.int .i64) x.2.1, .dat (.int .i64) x.2.2]
  hin x := []
  F x := f92 x.1 x.2.1 x.2.2
  ret y := [.dat (.int .i64) y]
  hout y := []
  nout := 0
theorem C92_vc (x_ : Int) (lo : Int) (hi : Int) (y : Int) (hF : f92 x_ lo hi = some y) : vc Try.prog tab Try.f92.ntmps 0 (match Try.f92.body with | some c => c | none => .skip) (retK tab C92 Try.f92.results.toList y) (C92.shIn (x_, lo, hi)).st := by
  unfold f92 at hF
  refine Or.inl ?_
  refine Or.inl ?_
  have hy := someE hF
  subst hy
  refine And.intro rfl (Exists.intro [] (Exists.intro [] (Exists.intro [] (Exists.intro [] (Exists.intro [] (And.intro rfl (And.intro rfl (And.intro trivial trivial))))))))
theorem C92_holds : C92.Holds Try.prog 92 := holds_of_vc tab_ok mixed (fn := Try.f92) (by kernel_rfl) rfl C92 (fun x y hF => C92_vc x.1 x.2.1 x.2.2 y hF)
theorem f92_in : ∃ fn, Try.prog.funcs[92]? = some fn ∧ fn.body.isSome = true ∧ (fn.name == "runtime.NumGoroutine") = false := ⟨Try.f92, by kernel_rfl, by kernel_rfl, by kernel_rfl⟩
end Go.Proofs
namespace Go.Proofs
open Go.AM
-- carousel/fix.Neg
def f93 (a : Int) : Option Int :=
  bif (a == (-9223372036854775808 : Int)) then
    some (9223372036854775807 : Int)
  else
    some (IntKind.i64.wrap (0 - a))
def C93 : Con where
  X := Int
  Y := Int
  e := 0
  args x := [.dat (.int .i64) x]
  hin x := []
  F x := f93 x
  ret y := [.dat (.int .i64) y]
  hout y := []
  nout := 0
theorem C93_vc (a : Int) (y : Int) (hF : f93 a = some y) : vc Try.prog tab Try.f93.ntmps 0 (match Try.f93.body with | some c => c | none => .skip) (retK tab C93 Try.f93.results.toList y) (C93.shIn a).st := by
  unfold f93 at hF
  refine Or.inl ?_
  refine Or.inl ?_
  refine Or.inl ?_
  refine condI hF (fun hF => ?_) (fun hF => ?_)
  · refine Or.inl ?_
    have hy := someE hF
    subst hy
    refine And.intro rfl (Exists.intro [] (Exists.intro [] (Exists.intro [] (Exists.intro [] (Exists.intro [] (And.intro rfl (And.intro rfl (And.intro trivial trivial))))))))
  · refine Or.inl ?_
    have hy := someE hF
    subst hy
    refine And.intro rfl (Exists.intro [] (Exists.intro [] (Exists.intro [] (Exists.intro [] (Exists.intro [] (And.intro rfl (And.intro rfl (And.intro trivial trivial))))))))
theorem C93_holds : C93.Holds Try.prog 93 := holds_of_vc tab_ok mixed (fn := Try.f93) (by kernel_rfl) rfl C93 (fun x y hF => C93_vc x y hF)
theorem f93_in : ∃ fn, Try.prog.funcs[93]? = some fn ∧ fn.body.isSome = true ∧ (fn.name == "runtime.NumGoroutine") = false := ⟨Try.f93, by kernel_rfl, by kernel_rfl, by kernel_rfl⟩
end Go.Proofs
namespace Go.Proofs
open Go.AM
-- carousel/act.Of
def f74 (kind : Int) (x_ : Int) : Option (Int × Int) :=
  bif (kind == (1 : Int)) then
    some ((if (0 : Int) > x_ then (0 : Int) else x_), (0 : Int))
  else
    bif (kind == (2 : Int)) then
      bif (decide (x_ > (0 : Int))) then
        some (x_, (0 : Int))
      else
        bindF (f91 (8 : Int)) fun r1 =>
        bindF (f85 x_ r1) fun r2 =>
        some (r2, (0 : Int))
    else
      bif (kind == (3 : Int)) then
        bindF (f92 x_ (-4294967296 : Int) (4294967296 : Int)) fun r3 =>
        some (r3, (0 : Int))
      else
        bif (kind == (4 : Int)) then
          bif (decide (x_ < (0 : Int))) then
            bindF (f93 x_) fun r4 =>
            some (r4, (0 : Int))
          else
            some (x_, (0 : Int))
        else
          bif (kind == (5 : Int)) then
            bindF (f91 (2 : Int)) fun r5 =>
            bindF (f85 x_ r5) fun r6 =>
            bindF (f56 r6 (2147483648 : Int)) fun r7 =>
            bindF (f92 r7 (0 : Int) (4294967296 : Int)) fun r8 =>
            some (r8, (0 : Int))
          else
            some ((0 : Int), (1 : Int))
def C74 : Con where
  X := Int × Int
  Y := Int × Int
  e := 0
  args x := [.dat (.int .i64) x.1, .dat (.int .i64) x.2]
  hin x := []
  F x := f74 x.1 x.2
  ret y := [.dat (.int .i64) y.1, .dat (.int .i64) y.2]
  hout y := []
  nout := 0
theorem C74_vc (kind : Int) (x_ : Int) (y : Int × Int) (hF : f74 kind x_ = some y) : vc Try.prog tab Try.f74.ntmps 0 (match Try.f74.body with | some c => c | none => .skip) (retK tab C74 Try.f74.results.toList y) (C74.shIn (kind, x_)).st := by
  unfold f74 at hF
  refine Or.inl ?_
  refine Or.inl ?_
  refine Or.inl ?_
  refine Or.inl ?_
  refine condI hF (fun hF => ?_) (fun hF => ?_)
  · refine Or.inl ?_
    have hy := someE hF
    subst hy
    refine And.intro rfl (Exists.intro [] (Exists.intro [] (Exists.intro [] (Exists.intro [] (Exists.intro [] (And.intro rfl (And.intro rfl (And.intro rfl (And.intro trivial trivial)))))))))
  · refine Or.inl ?_
    refine condI hF (fun hF => ?_) (fun hF => ?_)
    · refine Or.inl ?_
      refine Or.inl ?_
      refine condI hF (fun hF => ?_) (fun hF => ?_)
      · refine Or.inl ?_
        have hy := someE hF
        subst hy
        refine And.intro rfl (Exists.intro [] (Exists.intro [] (Exists.intro [] (Exists.intro [] (Exists.intro [] (And.intro rfl (And.intro rfl (And.intro rfl (And.intro trivial trivial)))))))))
      · refine Or.inl ?_
        obtain ⟨r1, hr1, hF⟩ := bindE hF
        refine Or.inl (And.intro f91_in (callV0 (callI C91 (8 : Int) r1 [] false C91_holds hr1 rfl rfl ?_)))
        refine (And.intro rfl (And.intro (fun h => nomatch h) (And.intro rfl (And.intro rfl (And.intro trivial (And.intro trivial ?_))))))
        obtain ⟨r2, hr2, hF⟩ := bindE hF
        refine Or.inl (And.intro f85_in (callV0 (callI C85 (x_, r1) r2 [] false C85_holds hr2 rfl rfl ?_)))
        refine (And.intro rfl (And.intro rfl (And.intro (fun h => nomatch h) (And.intro rfl (And.intro rfl (And.intro trivial (And.intro trivial ?_)))))))
        have hy := someE hF
        subst hy
        refine And.intro rfl (Exists.intro [] (Exists.intro [] (Exists.intro [] (Exists.intro [] (Exists.intro [] (And.intro rfl (And.intro rfl (And.intro rfl (And.intro trivial trivial)))))))))
    · refine Or.inl ?_
      refine condI hF (fun hF => ?_) (fun hF => ?_)
      · refine Or.inl ?_
        obtain ⟨r3, hr3, hF⟩ := bindE hF
        have hr3 : C92.F (x_, (-4294967296 : Int), (4294967296 : Int)) = some r3 := hr3
        refine Or.inl (And.intro f92_in (callV0 (callI C92 _ r3 [] false C92_holds hr3 rfl rfl ?_)))
        refine (And.intro rfl (And.intro rfl (And.intro rfl (And.intro (fun h => nomatch h) (And.intro rfl (And.intro rfl (And.intro trivial (And.intro trivial ?_))))))))
        have hy := someE hF
        subst hy
        refine And.intro rfl (Exists.intro [] (Exists.intro [] (Exists.intro [] (Exists.intro [] (Exists.intro [] (And.intro rfl (And.intro rfl (And.intro rfl (And.intro trivial trivial)))))))))
      · refine Or.inl ?_
        refine condI hF (fun hF => ?_) (fun hF => ?_)
        · refine Or.inl ?_
          refine Or.inl ?_
          refine condI hF (fun hF => ?_) (fun hF => ?_)
          · refine Or.inl ?_
            obtain ⟨r4, hr4, hF⟩ := bindE hF
            refine Or.inl (And.intro f93_in (callV0 (callI C93 x_ r4 [] false C93_holds hr4 rfl rfl ?_)))
            refine (And.intro rfl (And.intro (fun h => nomatch h) (And.intro rfl (And.intro rfl (And.intro trivial (And.intro trivial ?_))))))
            have hy := someE hF
            subst hy
            refine And.intro rfl (Exists.intro [] (Exists.intro [] (Exists.intro [] (Exists.intro [] (Exists.intro [] (And.intro rfl (And.intro rfl (And.intro rfl (And.intro trivial trivial)))))))))
          · refine Or.inl ?_
            have hy := someE hF
            subst hy
            refine And.intro rfl (Exists.intro [] (Exists.intro [] (Exists.intro [] (Exists.intro [] (Exists.intro [] (And.intro rfl (And.intro rfl (And.intro rfl (And.intro trivial trivial)))))))))
        · refine Or.inl ?_
          refine condI hF (fun hF => ?_) (fun hF => ?_)
          · refine Or.inl ?_
            obtain ⟨r5, hr5, hF⟩ := bindE hF
            refine Or.inl (And.intro f91_in (callV0 (callI C91 (2 : Int) r5 [] false C91_holds hr5 rfl rfl ?_)))
            refine (And.intro rfl (And.intro (fun h => nomatch h) (And.intro rfl (And.intro rfl (And.intro trivial (And.intro trivial ?_))))))
            obtain ⟨r6, hr6, hF⟩ := bindE hF
            refine Or.inl (And.intro f85_in (callV0 (callI C85 (x_, r5) r6 [] false C85_holds hr6 rfl rfl ?_)))
            refine (And.intro rfl (And.intro rfl (And.intro (fun h => nomatch h) (And.intro rfl (And.intro rfl (And.intro trivial (And.intro trivial ?_)))))))
            obtain ⟨r7, hr7, hF⟩ := bindE hF
            refine Or.inl (And.intro f56_in (callV0 (callI C56 (r6, (2147483648 : Int)) r7 [] false C56_holds hr7 rfl rfl ?_)))
            refine (And.intro rfl (And.intro rfl (And.intro (fun h => nomatch h) (And.intro rfl (And.intro rfl (And.intro trivial (And.intro trivial ?_)))))))
            obtain ⟨r8, hr8, hF⟩ := bindE hF
            refine Or.inl (And.intro f92_in (callV0 (callI C92 (r7, (0 : Int), (4294967296 : Int)) r8 [] false C92_holds hr8 rfl rfl ?_)))
            refine (And.intro rfl (And.intro rfl (And.intro rfl (And.intro (fun h => nomatch h) (And.intro rfl (And.intro rfl (And.intro trivial (And.intro trivial ?_))))))))
            have hy := someE hF
            subst hy
            refine And.intro rfl (Exists.intro [] (Exists.intro [] (Exists.intro [] (Exists.intro [] (Exists.intro [] (And.intro rfl (And.intro rfl (And.intro rfl (And.intro trivial trivial)))))))))
          · refine Or.inl ?_
            have hy := someE hF
            subst hy
            refine And.intro rfl (Exists.intro [] (Exists.intro [] (Exists.intro [] (Exists.intro [] (Exists.intro [] (And.intro rfl (And.intro rfl (And.intro rfl (And.intro trivial trivial)))))))))
theorem C74_holds : C74.Holds Try.prog 74 := holds_of_vc tab_ok mixed (fn := Try.f74) (by kernel_rfl) rfl C74 (fun x y hF => C74_vc x.1 x.2 y hF)
theorem f74_in : ∃ fn, Try.prog.funcs[74]? = some fn ∧ fn.body.isSome = true ∧ (fn.name == "runtime.NumGoroutine") = false := ⟨Try.f74, by kernel_rfl, by kernel_rfl, by kernel_rfl⟩
end Go.Proofs
namespace Go.Proofs
open Go.AM
-- carousel/act.All
def f52_j3 (kind : Int) (t : (List Int) × (List Int)) : Option Bool :=
  bindF (f73 kind) fun r9 =>
  bif (!r9) then
    some true
  else
    bindF (f14 (t.1, t.2)) fun r10 =>
    some (!r10)
def f52_j2 (kind : Int) (t : (List Int) × (List Int)) : Option (Sum Unit Unit) :=
  bindF (f52_j3 kind t) fun z8 =>
  bif z8 then
    some (Sum.inr ())
  else
    some (Sum.inl ())
def f52_l4 (kind : Int) (t : (List Int) × (List Int)) (go : (Int × (List Int)) → Option (List Int)) (v23 : Int) (l3 : List Int) : Option (List Int) :=
  bif (decide (v23 < (List.length t.2 : Int))) then
    guardF (0 ≤ v23 ∧ v23 < (List.length t.2 : Int)) <|
    bindF (f74 kind (rd (0 : Int) t.2 v23)) fun q7_5 =>
    guardF (0 ≤ v23 ∧ v23 < (List.length l3 : Int)) <|
    go ((IntKind.i64.wrap (v23 + (1 : Int))), (List.set l3 (Int.toNat v23) q7_5.1))
  else
    some l3
def f52 (kind : Int) (t : (List Int) × (List Int)) : Option (Int × (List Int) × (List Int)) :=
  bindF (f52_j2 kind t) fun z5 =>
  sumF z5 (fun z5a =>
    bindF (f16 (t.1, t.2)) fun r11 =>
    bindF (loopF (fun go x => f52_l4 kind t go x.1 x.2) fuelN ((0 : Int), r11.2)) fun z12 =>
    some ((0 : Int), r11.1, z12)) (fun z5b =>
    some ((1 : Int), [], []))
def C52 : Con where
  X := Int × ((List Int) × (List Int))
  Y := Int × (List Int) × (List Int)
  e := 0
  args x := [.dat (.int .i64) x.1, .dat (.p (.sl (.int .i64)) (.sl (.int .i64))) x.2]
  hin x := []
  F x := f52 x.1 x.2
  ret y := [.raw true [(.osl 0), (.osl 1)], .dat (.int .i64) y.1]
  hout y := [(0, .arr 3 (.int .i64) y.2.1), (1, .arr 24 (.int .i64) y.2.2)]
  nout := 2
theorem C52_vc (kind : Int) (t : (List Int) × (List Int)) (y : Int × (List Int) × (List Int)) (hF : f52 kind t = some y) : vc Try.prog tab Try.f52.ntmps 0 (match Try.f52.body with | some c => c | none => .skip) (retK tab C52 Try.f52.results.toList y) (C52.shIn (kind, t)).st := by
  unfold f52 at hF
  refine Or.inl ?_
  obtain ⟨z5, hz5, hF⟩ := bindE hF
  refine Or.inr ⟨Sum.elim (fun z5a => [(0, ⟨[(0, .dat (.int .i64) kind), (3, .raw false [(.ptr 0 0)]), (4, .raw false [(.ptr 1 0)])], [(0, .cells [(.d (.sl (.int .i64)) t.1), (.d (.sl (.int .i64)) t.2)]), (1, .cells [(.c (.slice none 0 0)), (.c (.slice none 0 0))])], 2⟩)]) (fun z5b => [(1, ⟨[(4, .raw false [(.ptr 0 0)]), (5, .dat (.int .i64) (1 : Int))], [(0, .cells [(.c (.slice none 0 0)), (.c (.slice none 0 0))])], 1⟩)]) z5, ?_, ?_⟩
  · have hF := hz5
    clear hz5
    unfold f52_j2 at hF
    obtain ⟨z8, hz8, hF⟩ := bindE hF
    refine Or.inr ⟨[(0, ⟨[(0, .dat (.int .i64) kind), (3, .raw false [(.ptr 0 0)]), (4, .raw false [(.ptr 1 0)]), (16, .dat .bool z8)], [(0, .cells [(.d (.sl (.int .i64)) t.1), (.d (.sl (.int .i64)) t.2)]), (1, .cells [(.c (.slice none 0 0)), (.c (.slice none 0 0))])], 2⟩)], ?_, ?_⟩
    · have hF := hz8
      clear hz8
      unfold f52_j3 at hF
      obtain ⟨r9, hr9, hF⟩ := bindE hF
      refine Or.inl (And.intro f73_in (callV0 (callI C73 kind r9 [] false C73_holds hr9 rfl rfl ?_)))
      refine (And.intro rfl (And.intro (fun h => nomatch h) (And.intro rfl (And.intro rfl (And.intro trivial (And.intro trivial ?_))))))
      refine condN hF (fun hF => ?_) (fun hF => ?_)
      · refine gdYF ?_
        obtain ⟨r10, hr10, hF⟩ := bindE hF
        refine Or.inl (And.intro f14_in (callV0 (callI C14 (t.1, t.2) r10 [] false C14_holds hr10 rfl rfl ?_)))
        refine (And.intro rfl (And.intro rfl (And.intro (fun h => nomatch h) (And.intro rfl (And.intro rfl (And.intro trivial (And.intro trivial ?_)))))))
        refine gdYF ?_
        refine condF ?_
        have hz := someE hF
        subst hz
        refine Exists.intro [] (Exists.intro [] (Exists.intro [] (Exists.intro [] (Exists.intro [(0, some 0), (1, some 1)] (And.intro rfl (And.intro rfl (And.intro rfl (And.intro (And.intro rfl (And.intro rfl trivial)) (And.intro rfl (And.intro rfl trivial))))))))))
      · refine gdNF ?_
        refine gdNF ?_
        refine condT ?_
        have hz := someE hF
        subst hz
        refine Exists.intro [] (Exists.intro [] (Exists.intro [] (Exists.intro [] (Exists.intro [(0, some 0), (1, some 1)] (And.intro rfl (And.intro rfl (And.intro rfl (And.intro (And.intro rfl (And.intro rfl trivial)) (And.intro rfl (And.intro rfl trivial))))))))))
    · refine And.intro ?_ trivial
      refine condI hF (fun hF => ?_) (fun hF => ?_)
      · refine Or.inl ?_
        refine Or.inl ?_
        have hz := someE hF
        subst hz
        refine Exists.intro [] (Exists.intro [] (Exists.intro [] (Exists.intro [] (Exists.intro [(0, some 1)] (And.intro rfl (And.intro rfl (And.intro (And.intro rfl trivial) (And.intro rfl trivial))))))))
      · have hz := someE hF
        subst hz
        refine Exists.intro [] (Exists.intro [] (Exists.intro [] (Exists.intro [] (Exists.intro [(0, some 0), (1, some 1)] (And.intro rfl (And.intro rfl (And.intro (And.intro rfl (And.intro rfl trivial)) (And.intro rfl (And.intro rfl trivial)))))))))
  · rcases z5 with z5a | z5b
    · dsimp only [sumF] at hF
      refine And.intro ?_ trivial
      refine Or.inl ?_
      obtain ⟨r11, hr11, hF⟩ := bindE hF
      refine Or.inl (And.intro f16_in (callV0 (callI C16 (t.1, t.2) r11 [] false C16_holds hr11 rfl rfl ?_)))
      refine (And.intro rfl (And.intro rfl (And.intro (fun h => nomatch h) (And.intro rfl (And.intro rfl (And.intro trivial (And.intro trivial ?_)))))))
      refine Or.inl ?_
      refine Or.inl ?_
      refine Or.inl ?_
      obtain ⟨z12, hz12, hF⟩ := bindE hF
      refine loopI (Int × (List Int)) (List Int) (fun x => ⟨[(0, .dat (.int .i64) kind), (4, .raw false [(.ptr 0 0)]), (6, .raw false [(.ptr 1 0)]), (21, .dat (.sl (.int .i64)) t.2), (22, .dat (.int .i64) (List.length t.2 : Int)), (23, .dat (.int .i64) x.1)], [(0, .cells [(.c (.slice none 0 0)), (.c (.slice none 0 0))]), (1, .cells [(.osl 2), (.osl 3)]), (2, .arr 3 (.int .i64) r11.1), (3, .arr 24 (.int .i64) x.2)], 4⟩) (fun z => [(2, ⟨[(4, .raw false [(.ptr 0 0)]), (6, .raw false [(.ptr 1 0)])], [(0, .cells [(.c (.slice none 0 0)), (.c (.slice none 0 0))]), (1, .cells [(.osl 2), (.osl 3)]), (2, .arr 3 (.int .i64) r11.1), (3, .arr 24 (.int .i64) z)], 4⟩)]) (loopF (fun go x => f52_l4 kind t go x.1 x.2)) fuelN ((0 : Int), r11.2) z12 (And.intro hz12 (And.intro (Exists.intro [] (Exists.intro [] (Exists.intro [] (Exists.intro [] (Exists.intro [(0, some 1), (1, some 4), (2, some 2), (3, some 3)] (And.intro rfl (And.intro rfl (And.intro rfl (And.intro rfl (And.intro rfl (And.intro (And.intro rfl (And.intro rfl trivial)) (And.intro rfl (And.intro rfl (And.intro rfl (And.intro rfl trivial))))))))))))))) (And.intro (fun _ _ h => loopZ h) (And.intro (fun m => curI (fun v23 => fun l3 z hF => ?_)) ?_))))
      · have hF : f52_l4 kind t (loopF (fun go x => f52_l4 kind t go x.1 x.2) m) v23 l3 = some z := hF
        unfold f52_l4 at hF
        refine Or.inl ?_
        refine Or.inl ?_
        refine condI hF (fun hF => ?_) (fun hF => ?_)
        · refine Or.inl ?_
          refine Or.inl ?_
          refine guardI hF (fun hF => ?_)
          refine Exists.intro (.take 0 (.take 1 (.take 2 (.take 3 (.take 4 (.alt 5 (.take 6 (.take 7 (.take 8 (.take 9 (.alt 10 .done .done))))) .done)))))) (Exists.intro [] (Exists.intro [] (And.intro rfl ?_)))
          refine And.intro trivial ?_
          obtain ⟨q7_5, hq7_5, hF⟩ := bindE hF
          refine Or.inl (And.intro f74_in (callV0 (callI C74 (kind, (rd (0 : Int) t.2 v23)) q7_5 [] false C74_holds hq7_5 rfl rfl ?_)))
          refine (And.intro rfl (And.intro rfl (And.intro (fun h => nomatch h) (And.intro rfl (And.intro rfl (And.intro trivial (And.intro trivial ?_)))))))
          refine guardI hF (fun hF => ?_)
          refine And.intro trivial ?_
          refine Or.inl ?_
          refine Exists.intro ((IntKind.i64.wrap (v23 + (1 : Int))), (List.set l3 (Int.toNat v23) q7_5.1)) (And.intro hF (Exists.intro [] (Exists.intro [] (Exists.intro [] (Exists.intro [] (Exists.intro [(0, some 0), (1, some 1), (2, some 2), (3, some 3)] (And.intro rfl (And.intro rfl (And.intro rfl (And.intro rfl (And.intro rfl (And.intro (And.intro rfl (And.intro rfl trivial)) (And.intro rfl (And.intro rfl (And.intro rfl (And.intro rfl trivial))))))))))))))))
        · have hz := someE hF
          subst hz
          refine Exists.intro [] (Exists.intro [] (Exists.intro [] (Exists.intro [] (Exists.intro [(0, some 0), (1, some 1), (2, some 2), (3, some 3)] (And.intro rfl (And.intro (And.intro rfl (And.intro rfl trivial)) (And.intro rfl (And.intro rfl (And.intro rfl (And.intro rfl trivial))))))))))
      · refine And.intro ?_ trivial
        refine Or.inl ?_
        refine Or.inl ?_
        have hy := someE hF
        subst hy
        refine And.intro rfl (Exists.intro [] (Exists.intro [] (Exists.intro [] (Exists.intro [] (Exists.intro [(0, some 2), (1, some 3)] (And.intro rfl (And.intro rfl (And.intro (And.intro rfl trivial) (And.intro rfl (And.intro rfl trivial))))))))))
    · dsimp only [sumF] at hF
      refine And.intro ?_ trivial
      have hy := someE hF
      subst hy
      refine And.intro rfl (Exists.intro [] (Exists.intro [] (Exists.intro [] (Exists.intro [] (Exists.intro [(0, none), (1, none)] (And.intro rfl (And.intro rfl (And.intro (And.intro rfl trivial) (And.intro rfl (And.intro rfl trivial))))))))))
theorem C52_holds : C52.Holds Try.prog 52 := holds_of_vc tab_ok mixed (fn := Try.f52) (by kernel_rfl) rfl C52 (fun x y hF => C52_vc x.1 x.2 y hF)
theorem f52_in : ∃ fn, Try.prog.funcs[52]? = some fn ∧ fn.body.isSome = true ∧ (fn.name == "runtime.NumGoroutine") = false := ⟨Try.f52, by kernel_rfl, by kernel_rfl, by kernel_rfl⟩
end Go.Proofs
namespace Go.Proofs
open Go.AM
-- carousel/conv.Pool
def f53_j3 (a : (List Int) × (List Int)) (wid : Int) : Option Bool :=
  bif (decide (wid < (1 : Int))) then
    some true
  else
    guardF (0 ≤ (1 : Int) ∧ (1 : Int) < (List.length a.1 : Int)) <|
    some (decide (wid > (rd (0 : Int) a.1 (1 : Int))))
def f53_j2 (a : (List Int) × (List Int)) (wid : Int) : Option (Sum Unit Int) :=
  bindF (f14 (a.1, a.2)) fun r4 =>
  bif (!r4) then
    some (Sum.inr (1 : Int))
  else
    bif ((List.length a.1 : Int) != (2 : Int)) then
      some (Sum.inr (4 : Int))
    else
      bindF (f53_j3 a wid) fun z5 =>
      bif z5 then
        some (Sum.inr (1 : Int))
      else
        some (Sum.inl ())
def f53_l7 (a : (List Int) × (List Int)) (wid : Int) (v61 : Int) (go : (Int × Int) → Option Int) (best : Int) (at_ : Int) : Option Int :=
  guardF ((IntKind.i64.wrap (Int.tdiv (rd (0 : Int) a.1 (1 : Int)) wid)) ≠ 0) <|
  guardF ((IntKind.i64.wrap (Int.tdiv (rd (0 : Int) a.1 (1 : Int)) wid)) ≠ 0) <|
  bif (decide (at_ < (IntKind.i64.wrap ((IntKind.i64.wrap ((IntKind.i64.wrap ((IntKind.i64.wrap (Int.tdiv v61 (IntKind.i64.wrap (Int.tdiv (rd (0 : Int) a.1 (1 : Int)) wid)))) * (rd (0 : Int) a.1 (1 : Int)))) + (IntKind.i64.wrap ((Int.tmod v61 (IntKind.i64.wrap (Int.tdiv (rd (0 : Int) a.1 (1 : Int)) wid))) * wid)))) + wid)))) then
    guardF (0 ≤ at_ ∧ at_ < (List.length a.2 : Int)) <|
    guardF (0 ≤ best ∧ best < (List.length a.2 : Int)) <|
    bif (decide ((rd (0 : Int) a.2 at_) > (rd (0 : Int) a.2 best))) then
      go (at_, (IntKind.i64.wrap (at_ + (1 : Int))))
    else
      go (best, (IntKind.i64.wrap (at_ + (1 : Int))))
  else
    some best
def f53_l6 (a : (List Int) × (List Int)) (wid : Int) (q7_11 : Int × (List Int) × (List Int)) (go : (Int × (List Int) × (List Int)) → Option ((List Int) × (List Int))) (v61 : Int) (l3 : List Int) (l5 : List Int) : Option ((List Int) × (List Int)) :=
  bif (decide (v61 < (List.length q7_11.2.2 : Int))) then
    guardF ((IntKind.i64.wrap (Int.tdiv (rd (0 : Int) a.1 (1 : Int)) wid)) ≠ 0) <|
    guardF ((IntKind.i64.wrap (Int.tdiv (rd (0 : Int) a.1 (1 : Int)) wid)) ≠ 0) <|
    bindF (loopF (fun go x => f53_l7 a wid v61 go x.1 x.2) fuelN ((IntKind.i64.wrap ((IntKind.i64.wrap ((IntKind.i64.wrap (Int.tdiv v61 (IntKind.i64.wrap (Int.tdiv (rd (0 : Int) a.1 (1 : Int)) wid)))) * (rd (0 : Int) a.1 (1 : Int)))) + (IntKind.i64.wrap ((Int.tmod v61 (IntKind.i64.wrap (Int.tdiv (rd (0 : Int) a.1 (1 : Int)) wid))) * wid)))), (IntKind.i64.wrap ((IntKind.i64.wrap ((IntKind.i64.wrap ((IntKind.i64.wrap (Int.tdiv v61 (IntKind.i64.wrap (Int.tdiv (rd (0 : Int) a.1 (1 : Int)) wid)))) * (rd (0 : Int) a.1 (1 : Int)))) + (IntKind.i64.wrap ((Int.tmod v61 (IntKind.i64.wrap (Int.tdiv (rd (0 : Int) a.1 (1 : Int)) wid))) * wid)))) + (1 : Int))))) fun z9 =>
    guardF (0 ≤ z9 ∧ z9 < (List.length a.2 : Int)) <|
    guardF (0 ≤ v61 ∧ v61 < (List.length l5 : Int)) <|
    guardF ((List.length l3 + List.length ([z9])) * 8 ≤ 140737488355328) <|
    go ((IntKind.i64.wrap (v61 + (1 : Int))), (l3 ++ ([z9])), (List.set l5 (Int.toNat v61) (rd (0 : Int) a.2 z9)))
  else
    some (l3, l5)
def f53 (a : (List Int) × (List Int)) (wid : Int) : Option (Int × (List Int) × (List Int) × (List Int)) :=
  bindF (f53_j2 a wid) fun z3 =>
  sumF z3 (fun z3a =>
    guardF (0 ≤ (1 : Int) ∧ (1 : Int) < (List.length a.1 : Int)) <|
    guardF (0 ≤ (1 : Int) ∧ (1 : Int) < (List.length a.1 : Int)) <|
    guardF (wid ≠ 0) <|
    guardF (0 ≤ (0 : Int) ∧ (0 : Int) < (List.length a.1 : Int)) <|
    bindF (f63 ([(rd (0 : Int) a.1 (0 : Int)), (IntKind.i64.wrap (Int.tdiv (rd (0 : Int) a.1 (1 : Int)) wid))])) fun q7_11 =>
    bindF (loopF (fun go x => f53_l6 a wid q7_11 go x.1 x.2.1 x.2.2) fuelN ((0 : Int), [], q7_11.2.2)) fun z8 =>
    some ((0 : Int), q7_11.2.1, z8.2, z8.1)) (fun z3b =>
    some (z3b, [], [], []))
def C53 : Con where
  X := ((List Int) × (List Int)) × Int
  Y := Int × (List Int) × (List Int) × (List Int)
  e := 0
  args x := [.dat (.p (.sl (.int .i64)) (.sl (.int .i64))) x.1, .dat (.int .i64) x.2]
  hin x := []
  F x := f53 x.1 x.2
  ret y := [.raw true [(.osl 0), (.osl 1)], .raw false [(.osl 2)], .dat (.int .i64) y.1]
  hout y := [(0, .arr 3 (.int .i64) y.2.1), (1, .arr 24 (.int .i64) y.2.2.1), (2, .arr 3 (.int .i64) y.2.2.2)]
  nout := 3
theorem C53_vc (a : (List Int) × (List Int)) (wid : Int) (y : Int × (List Int) × (List Int) × (List Int)) (hF : f53 a wid = some y) : vc Try.prog tab Try.f53.ntmps 0 (match Try.f53.body with | some c => c | none => .skip) (retK tab C53 Try.f53.results.toList y) (C53.shIn (a, wid)).st := by
  unfold f53 at hF
  refine Or.inl ?_
  obtain ⟨z3, hz3, hF⟩ := bindE hF
  refine Or.inr ⟨Sum.elim (fun z3a => [(0, ⟨[(1, .dat (.int .i64) wid), (2, .raw false [(.ptr 0 0)]), (4, .raw false [(.ptr 1 0)])], [(0, .cells [(.d (.sl (.int .i64)) a.1), (.d (.sl (.int .i64)) a.2)]), (1, .cells [(.c (.slice none 0 0)), (.c (.slice none 0 0))])], 2⟩)]) (fun z3b => [(1, ⟨[(4, .raw false [(.ptr 0 0)]), (5, .raw false [(.c (.slice none 0 0))]), (6, .dat (.int .i64) z3b)], [(0, .cells [(.c (.slice none 0 0)), (.c (.slice none 0 0))])], 1⟩)]) z3, ?_, ?_⟩
  · have hF := hz3
    clear hz3
    unfold f53_j2 at hF
    refine Or.inl ?_
    obtain ⟨r4, hr4, hF⟩ := bindE hF
    refine Or.inl (And.intro f14_in (callV0 (callI C14 (a.1, a.2) r4 [] false C14_holds hr4 rfl rfl ?_)))
    refine (And.intro rfl (And.intro rfl (And.intro (fun h => nomatch h) (And.intro rfl (And.intro rfl (And.intro trivial (And.intro trivial ?_)))))))
    refine condI hF (fun hF => ?_) (fun hF => ?_)
    · refine Or.inl ?_
      refine Or.inl ?_
      have hz := someE hF
      subst hz
      refine Exists.intro [] (Exists.intro [] (Exists.intro [] (Exists.intro [] (Exists.intro [(0, some 1)] (And.intro rfl (And.intro rfl (And.intro (And.intro rfl (And.intro rfl trivial)) (And.intro rfl trivial))))))))
    · refine Or.inl ?_
      refine condI hF (fun hF => ?_) (fun hF => ?_)
      · refine Or.inl ?_
        refine Or.inl ?_
        have hz := someE hF
        subst hz
        refine Exists.intro [] (Exists.intro [] (Exists.intro [] (Exists.intro [] (Exists.intro [(0, some 1)] (And.intro rfl (And.intro rfl (And.intro (And.intro rfl (And.intro rfl trivial)) (And.intro rfl trivial))))))))
      · obtain ⟨z5, hz5, hF⟩ := bindE hF
        refine Or.inr ⟨[(0, ⟨[(1, .dat (.int .i64) wid), (2, .raw false [(.ptr 0 0)]), (4, .raw false [(.ptr 1 0)]), (26, .dat .bool z5)], [(0, .cells [(.d (.sl (.int .i64)) a.1), (.d (.sl (.int .i64)) a.2)]), (1, .cells [(.c (.slice none 0 0)), (.c (.slice none 0 0))])], 2⟩)], ?_, ?_⟩
        · have hF := hz5
          clear hz5
          unfold f53_j3 at hF
          refine condN hF (fun hF => ?_) (fun hF => ?_)
          · refine gdYF ?_
            refine gdYF ?_
            refine gdYF ?_
            refine guardI hF (fun hF => ?_)
            refine gdYF ?_
            refine gdYF ?_
            refine condF ?_
            have hz := someE hF
            subst hz
            refine Exists.intro [] (Exists.intro [] (Exists.intro [] (Exists.intro [] (Exists.intro [(0, some 0), (1, some 1)] (And.intro rfl (And.intro rfl (And.intro rfl (And.intro (And.intro rfl (And.intro rfl trivial)) (And.intro rfl (And.intro rfl trivial))))))))))
          · refine gdNF ?_
            refine gdNF ?_
            refine gdNF ?_
            refine gdNF ?_
            refine gdNF ?_
            refine condT ?_
            have hz := someE hF
            subst hz
            refine Exists.intro [] (Exists.intro [] (Exists.intro [] (Exists.intro [] (Exists.intro [(0, some 0), (1, some 1)] (And.intro rfl (And.intro rfl (And.intro rfl (And.intro (And.intro rfl (And.intro rfl trivial)) (And.intro rfl (And.intro rfl trivial))))))))))
        · refine And.intro ?_ trivial
          refine condI hF (fun hF => ?_) (fun hF => ?_)
          · refine Or.inl ?_
            refine Or.inl ?_
            have hz := someE hF
            subst hz
            refine Exists.intro [] (Exists.intro [] (Exists.intro [] (Exists.intro [] (Exists.intro [(0, some 1)] (And.intro rfl (And.intro rfl (And.intro (And.intro rfl (And.intro rfl trivial)) (And.intro rfl trivial))))))))
          · have hz := someE hF
            subst hz
            refine Exists.intro [] (Exists.intro [] (Exists.intro [] (Exists.intro [] (Exists.intro [(0, some 0), (1, some 1)] (And.intro rfl (And.intro rfl (And.intro (And.intro rfl (And.intro rfl trivial)) (And.intro rfl (And.intro rfl trivial)))))))))
  · rcases z3 with z3a | z3b
    · dsimp only [sumF] at hF
      refine And.intro ?_ trivial
      refine Or.inl ?_
      refine Exists.intro (.take 0 (.take 1 (.take 2 (.take 3 (.take 4 (.take 5 (.take 6 (.take 7 (.take 8 (.take 9 (.take 10 (.take 11 .done)))))))))))) (Exists.intro [] (Exists.intro [] (And.intro rfl ?_)))
      refine guardI hF (fun hF => ?_)
      refine guardI hF (fun hF => ?_)
      refine guardI hF (fun hF => ?_)
      refine Or.inl ?_
      refine guardI hF (fun hF => ?_)
      refine Or.inl ?_
      obtain ⟨q7_11, hq7_11, hF⟩ := bindE hF
      refine Or.inl (And.intro f63_in (callV0 (callI C63 [(rd (0 : Int) a.1 (0 : Int)), (IntKind.i64.wrap (Int.tdiv (rd (0 : Int) a.1 (1 : Int)) wid))] q7_11 [] true C63_holds hq7_11 rfl rfl ?_)))
      refine (And.intro rfl (And.intro (fun _ => rfl) (And.intro rfl (And.intro rfl (And.intro trivial (And.intro trivial ?_))))))
      refine Or.inl ?_
      refine Or.inl ?_
      refine Or.inl ?_
      refine Or.inl ?_
      obtain ⟨z8, hz8, hF⟩ := bindE hF
      refine loopI (Int × (List Int) × (List Int)) ((List Int) × (List Int)) (fun x => ⟨[(1, .dat (.int .i64) wid), (2, .raw false [(.ptr 0 0)]), (4, .raw false [(.ptr 1 0)]), (7, .dat (.int .i64) (rd (0 : Int) a.1 (1 : Int))), (8, .dat (.int .i64) (IntKind.i64.wrap (Int.tdiv (rd (0 : Int) a.1 (1 : Int)) wid))), (9, .raw false [(.ptr 2 0)]), (11, .raw false [(.osl 3)]), (60, .dat (.int .i64) (List.length q7_11.2.2 : Int)), (61, .dat (.int .i64) x.1)], [(0, .cells [(.d (.sl (.int .i64)) a.1), (.d (.sl (.int .i64)) a.2)]), (1, .cells [(.c (.slice none 0 0)), (.c (.slice none 0 0))]), (2, .cells [(.osl 4), (.osl 5)]), (3, .arr 3 (.int .i64) x.2.1), (4, .arr 3 (.int .i64) q7_11.2.1), (5, .arr 24 (.int .i64) x.2.2)], 6⟩) (fun z => [(3, ⟨[(4, .raw false [(.ptr 0 0)]), (9, .raw false [(.ptr 1 0)]), (11, .raw false [(.osl 2)])], [(0, .cells [(.c (.slice none 0 0)), (.c (.slice none 0 0))]), (1, .cells [(.osl 3), (.osl 4)]), (2, .arr 3 (.int .i64) z.1), (3, .arr 3 (.int .i64) q7_11.2.1), (4, .arr 24 (.int .i64) z.2)], 5⟩)]) (loopF (fun go x => f53_l6 a wid q7_11 go x.1 x.2.1 x.2.2)) fuelN ((0 : Int), [], q7_11.2.2) z8 (And.intro hz8 (And.intro (Exists.intro [] (Exists.intro [] (Exists.intro [] (Exists.intro [] (Exists.intro [(0, some 0), (1, some 1), (2, some 5), (3, none), (4, some 3), (5, some 4)] (And.intro rfl (And.intro rfl (And.intro rfl (And.intro rfl (And.intro rfl (And.intro rfl (And.intro (And.intro rfl (And.intro rfl (And.intro rfl (And.intro rfl trivial)))) (And.intro rfl (And.intro rfl (And.intro rfl (And.intro rfl (And.intro rfl (And.intro rfl trivial)))))))))))))))))) (And.intro (fun _ _ h => loopZ h) (And.intro (fun m => curI (fun v61 => curI (fun l3 => fun l5 z hF => ?_))) ?_))))
      · have hF : f53_l6 a wid q7_11 (loopF (fun go x => f53_l6 a wid q7_11 go x.1 x.2.1 x.2.2) m) v61 l3 l5 = some z := hF
        unfold f53_l6 at hF
        refine Or.inl ?_
        refine Or.inl ?_
        refine condI hF (fun hF => ?_) (fun hF => ?_)
        · refine Or.inl ?_
          refine Or.inl ?_
          refine Or.inl ?_
          refine Exists.intro (.take 0 (.take 1 (.take 2 (.take 3 (.take 4 (.take 5 (.take 6 (.take 7 (.take 8 (.take 9 (.take 10 (.take 11 .done)))))))))))) (Exists.intro [] (Exists.intro [] (And.intro rfl ?_)))
          refine guardI hF (fun hF => ?_)
          refine guardI hF (fun hF => ?_)
          refine Or.inl ?_
          refine Or.inl ?_
          obtain ⟨z9, hz9, hF⟩ := bindE hF
          refine loopI (Int × Int) Int (fun x => ⟨[(1, .dat (.int .i64) wid), (2, .raw false [(.ptr 0 0)]), (4, .raw false [(.ptr 1 0)]), (7, .dat (.int .i64) (rd (0 : Int) a.1 (1 : Int))), (8, .dat (.int .i64) (IntKind.i64.wrap (Int.tdiv (rd (0 : Int) a.1 (1 : Int)) wid))), (9, .raw false [(.ptr 2 0)]), (11, .raw false [(.osl 3)]), (12, .dat (.int .i64) v61), (13, .dat (.int .i64) x.1), (14, .dat (.int .i64) x.2), (60, .dat (.int .i64) (List.length q7_11.2.2 : Int)), (61, .dat (.int .i64) v61)], [(0, .cells [(.d (.sl (.int .i64)) a.1), (.d (.sl (.int .i64)) a.2)]), (1, .cells [(.c (.slice none 0 0)), (.c (.slice none 0 0))]), (2, .cells [(.osl 4), (.osl 5)]), (3, .arr 3 (.int .i64) l3), (4, .arr 3 (.int .i64) q7_11.2.1), (5, .arr 24 (.int .i64) l5)], 6⟩) (fun z => [(5, ⟨[(1, .dat (.int .i64) wid), (2, .raw false [(.ptr 0 0)]), (4, .raw false [(.ptr 1 0)]), (7, .dat (.int .i64) (rd (0 : Int) a.1 (1 : Int))), (8, .dat (.int .i64) (IntKind.i64.wrap (Int.tdiv (rd (0 : Int) a.1 (1 : Int)) wid))), (9, .raw false [(.ptr 2 0)]), (11, .raw false [(.osl 3)]), (12, .dat (.int .i64) v61), (13, .dat (.int .i64) z), (60, .dat (.int .i64) (List.length q7_11.2.2 : Int)), (61, .dat (.int .i64) v61)], [(0, .cells [(.d (.sl (.int .i64)) a.1), (.d (.sl (.int .i64)) a.2)]), (1, .cells [(.c (.slice none 0 0)), (.c (.slice none 0 0))]), (2, .cells [(.osl 4), (.osl 5)]), (3, .arr 3 (.int .i64) l3), (4, .arr 3 (.int .i64) q7_11.2.1), (5, .arr 24 (.int .i64) l5)], 6⟩)]) (loopF (fun go x => f53_l7 a wid v61 go x.1 x.2)) fuelN ((IntKind.i64.wrap ((IntKind.i64.wrap ((IntKind.i64.wrap (Int.tdiv v61 (IntKind.i64.wrap (Int.tdiv (rd (0 : Int) a.1 (1 : Int)) wid)))) * (rd (0 : Int) a.1 (1 : Int)))) + (IntKind.i64.wrap ((Int.tmod v61 (IntKind.i64.wrap (Int.tdiv (rd (0 : Int) a.1 (1 : Int)) wid))) * wid)))), (IntKind.i64.wrap ((IntKind.i64.wrap ((IntKind.i64.wrap ((IntKind.i64.wrap (Int.tdiv v61 (IntKind.i64.wrap (Int.tdiv (rd (0 : Int) a.1 (1 : Int)) wid)))) * (rd (0 : Int) a.1 (1 : Int)))) + (IntKind.i64.wrap ((Int.tmod v61 (IntKind.i64.wrap (Int.tdiv (rd (0 : Int) a.1 (1 : Int)) wid))) * wid)))) + (1 : Int)))) z9 (And.intro hz9 (And.intro (Exists.intro [] (Exists.intro [] (Exists.intro [] (Exists.intro [] (Exists.intro [(0, some 0), (1, some 1), (2, some 2), (3, some 3), (4, some 4), (5, some 5)] (And.intro rfl (And.intro rfl (And.intro rfl (And.intro rfl (And.intro rfl (And.intro rfl (And.intro rfl (And.intro rfl (And.intro rfl (And.intro (And.intro rfl (And.intro rfl (And.intro rfl (And.intro rfl trivial)))) (And.intro rfl (And.intro rfl (And.intro rfl (And.intro rfl (And.intro rfl (And.intro rfl trivial))))))))))))))))))))) (And.intro (fun _ _ h => loopZ h) (And.intro (fun m => curI (fun best => fun at_ z hF => ?_)) ?_))))
          · have hF : f53_l7 a wid v61 (loopF (fun go x => f53_l7 a wid v61 go x.1 x.2) m) best at_ = some z := hF
            unfold f53_l7 at hF
            refine Or.inl ?_
            refine Or.inl ?_
            refine Exists.intro (.take 0 (.take 1 (.take 2 (.take 3 (.take 4 (.take 5 (.take 6 (.take 7 (.take 8 (.take 9 (.take 10 (.take 11 (.take 12 (.take 13 (.take 14 .done))))))))))))))) (Exists.intro [] (Exists.intro [] (And.intro rfl ?_)))
            refine guardI hF (fun hF => ?_)
            refine guardI hF (fun hF => ?_)
            refine condI hF (fun hF => ?_) (fun hF => ?_)
            · refine Or.inl ?_
              refine Or.inl ?_
              refine Exists.intro (.take 0 (.take 1 (.take 2 (.take 3 (.take 4 (.take 5 (.take 6 (.take 7 (.take 8 (.take 9 (.take 10 .done))))))))))) (Exists.intro [] (Exists.intro [] (And.intro rfl ?_)))
              refine guardI hF (fun hF => ?_)
              refine guardI hF (fun hF => ?_)
              refine condI hF (fun hF => ?_) (fun hF => ?_)
              · refine Exists.intro (at_, (IntKind.i64.wrap (at_ + (1 : Int)))) (And.intro hF (Exists.intro [] (Exists.intro [] (Exists.intro [] (Exists.intro [] (Exists.intro [(0, some 0), (1, some 1), (2, some 2), (3, some 3), (4, some 4), (5, some 5)] (And.intro rfl (And.intro rfl (And.intro rfl (And.intro rfl (And.intro rfl (And.intro rfl (And.intro rfl (And.intro rfl (And.intro rfl (And.intro (And.intro rfl (And.intro rfl (And.intro rfl (And.intro rfl trivial)))) (And.intro rfl (And.intro rfl (And.intro rfl (And.intro rfl (And.intro rfl (And.intro rfl trivial))))))))))))))))))))))
              · refine Exists.intro (best, (IntKind.i64.wrap (at_ + (1 : Int)))) (And.intro hF (Exists.intro [] (Exists.intro [] (Exists.intro [] (Exists.intro [] (Exists.intro [(0, some 0), (1, some 1), (2, some 2), (3, some 3), (4, some 4), (5, some 5)] (And.intro rfl (And.intro rfl (And.intro rfl (And.intro rfl (And.intro rfl (And.intro rfl (And.intro rfl (And.intro rfl (And.intro rfl (And.intro (And.intro rfl (And.intro rfl (And.intro rfl (And.intro rfl trivial)))) (And.intro rfl (And.intro rfl (And.intro rfl (And.intro rfl (And.intro rfl (And.intro rfl trivial))))))))))))))))))))))
            · have hz := someE hF
              subst hz
              refine Exists.intro [] (Exists.intro [] (Exists.intro [] (Exists.intro [] (Exists.intro [(0, some 0), (1, some 1), (2, some 2), (3, some 3), (4, some 4), (5, some 5)] (And.intro rfl (And.intro rfl (And.intro rfl (And.intro rfl (And.intro rfl (And.intro rfl (And.intro rfl (And.intro rfl (And.intro (And.intro rfl (And.intro rfl (And.intro rfl (And.intro rfl trivial)))) (And.intro rfl (And.intro rfl (And.intro rfl (And.intro rfl (And.intro rfl (And.intro rfl trivial)))))))))))))))))))
          · refine And.intro ?_ trivial
            refine Or.inl ?_
            refine Exists.intro (.take 0 (.take 1 (.take 2 (.take 3 (.take 4 (.take 5 (.take 6 (.take 7 (.take 8 (.alt 9 .done .done)))))))))) (Exists.intro [] (Exists.intro [] (And.intro rfl ?_)))
            refine guardI hF (fun hF => ?_)
            refine guardI hF (fun hF => ?_)
            refine And.intro trivial ?_
            refine Or.inl ?_
            refine Or.inl ?_
            refine Or.inl ?_
            refine guardI hF (fun hF => ?_)
            refine Exists.intro ((IntKind.i64.wrap (v61 + (1 : Int))), (l3 ++ ([z9])), (List.set l5 (Int.toNat v61) (rd (0 : Int) a.2 z9))) (And.intro hF (Exists.intro [] (Exists.intro [] (Exists.intro [] (Exists.intro [] (Exists.intro [(0, some 0), (1, some 1), (2, some 2), (3, some 7), (4, some 4), (5, some 5)] (And.intro rfl (And.intro rfl (And.intro rfl (And.intro rfl (And.intro rfl (And.intro rfl (And.intro (And.intro rfl (And.intro rfl (And.intro rfl (And.intro rfl trivial)))) (And.intro rfl (And.intro rfl (And.intro rfl (And.intro rfl (And.intro rfl (And.intro rfl trivial)))))))))))))))))))
        · have hz := someE hF
          subst hz
          refine Exists.intro [] (Exists.intro [] (Exists.intro [] (Exists.intro [] (Exists.intro [(0, some 1), (1, some 2), (2, some 3), (3, some 4), (4, some 5)] (And.intro rfl (And.intro (And.intro rfl (And.intro rfl (And.intro rfl trivial))) (And.intro rfl (And.intro rfl (And.intro rfl (And.intro rfl (And.intro rfl trivial)))))))))))
      · refine And.intro ?_ trivial
        refine Or.inl ?_
        refine Or.inl ?_
        have hy := someE hF
        subst hy
        refine And.intro rfl (Exists.intro [] (Exists.intro [] (Exists.intro [] (Exists.intro [] (Exists.intro [(0, some 3), (1, some 4), (2, some 2)] (And.intro rfl (And.intro rfl (And.intro (And.intro rfl (And.intro rfl trivial)) (And.intro rfl (And.intro rfl (And.intro rfl trivial)))))))))))
    · dsimp only [sumF] at hF
      refine And.intro ?_ trivial
      have hy := someE hF
      subst hy
      refine And.intro rfl (Exists.intro [] (Exists.intro [] (Exists.intro [] (Exists.intro [] (Exists.intro [(0, none), (1, none), (2, none)] (And.intro rfl (And.intro rfl (And.intro (And.intro rfl (And.intro rfl trivial)) (And.intro rfl (And.intro rfl (And.intro rfl trivial)))))))))))
theorem C53_holds : C53.Holds Try.prog 53 := holds_of_vc tab_ok mixed (fn := Try.f53) (by kernel_rfl) rfl C53 (fun x y hF => C53_vc x.1 x.2 y hF)
theorem f53_in : ∃ fn, Try.prog.funcs[53]? = some fn ∧ fn.body.isSome = true ∧ (fn.name == "runtime.NumGoroutine") = false := ⟨Try.f53, by kernel_rfl, by kernel_rfl, by kernel_rfl⟩
end Go.Proofs
namespace Go.Proofs
open Go.AM
-- carousel/tens.Reshape
def f54_j3 (a : (List Int) × (List Int)) (d : List Int) : Option Bool :=
  bindF (f14 (a.1, a.2)) fun r8 =>
  bif (!r8) then
    some true
  else
    bindF (f25 d) fun r9 =>
    some (!r9)
def f54_j2 (a : (List Int) × (List Int)) (d : List Int) : Option (Sum Unit Int) :=
  bindF (f54_j3 a d) fun z7 =>
  bif z7 then
    some (Sum.inr (1 : Int))
  else
    bindF (f26 d) fun q3_1 =>
    bif (q3_1 != (List.length a.2 : Int)) then
      some (Sum.inr (4 : Int))
    else
      some (Sum.inl ())
def f54 (a : (List Int) × (List Int)) (d : List Int) : Option (Int × (List Int) × (List Int)) :=
  bindF (f54_j2 a d) fun z5 =>
  sumF z5 (fun z5a =>
    bindF (f27 d) fun q5_1 =>
    bindF (f28 a.2) fun q5_4 =>
    some ((0 : Int), q5_1, q5_4)) (fun z5b =>
    some (z5b, [], []))
def C54 : Con where
  X := ((List Int) × (List Int)) × (List Int)
  Y := Int × (List Int) × (List Int)
  e := 0
  args x := [.dat (.p (.sl (.int .i64)) (.sl (.int .i64))) x.1, .dat (.sl (.int .i64)) x.2]
  hin x := []
  F x := f54 x.1 x.2
  ret y := [.raw true [(.osl 0), (.osl 1)], .dat (.int .i64) y.1]
  hout y := [(0, .arr 3 (.int .i64) y.2.1), (1, .arr 24 (.int .i64) y.2.2)]
  nout := 2
theorem C54_vc (a : (List Int) × (List Int)) (d : List Int) (y : Int × (List Int) × (List Int)) (hF : f54 a d = some y) : vc Try.prog tab Try.f54.ntmps 0 (match Try.f54.body with | some c => c | none => .skip) (retK tab C54 Try.f54.results.toList y) (C54.shIn (a, d)).st := by
  unfold f54 at hF
  refine Or.inl ?_
  obtain ⟨z5, hz5, hF⟩ := bindE hF
  refine Or.inr ⟨Sum.elim (fun z5a => [(0, ⟨[(1, .dat (.sl (.int .i64)) d), (2, .raw false [(.ptr 0 0)]), (4, .raw false [(.ptr 1 0)])], [(0, .cells [(.d (.sl (.int .i64)) a.1), (.d (.sl (.int .i64)) a.2)]), (1, .cells [(.c (.slice none 0 0)), (.c (.slice none 0 0))])], 2⟩)]) (fun z5b => [(1, ⟨[(4, .raw false [(.ptr 0 0)]), (5, .dat (.int .i64) z5b)], [(0, .cells [(.c (.slice none 0 0)), (.c (.slice none 0 0))])], 1⟩)]) z5, ?_, ?_⟩
  · have hF := hz5
    clear hz5
    unfold f54_j2 at hF
    obtain ⟨z7, hz7, hF⟩ := bindE hF
    refine Or.inr ⟨[(0, ⟨[(1, .dat (.sl (.int .i64)) d), (2, .raw false [(.ptr 0 0)]), (4, .raw false [(.ptr 1 0)]), (6, .dat .bool z7)], [(0, .cells [(.d (.sl (.int .i64)) a.1), (.d (.sl (.int .i64)) a.2)]), (1, .cells [(.c (.slice none 0 0)), (.c (.slice none 0 0))])], 2⟩)], ?_, ?_⟩
    · have hF := hz7
      clear hz7
      unfold f54_j3 at hF
      obtain ⟨r8, hr8, hF⟩ := bindE hF
      refine Or.inl (And.intro f14_in (callV0 (callI C14 (a.1, a.2) r8 [] false C14_holds hr8 rfl rfl ?_)))
      refine (And.intro rfl (And.intro rfl (And.intro (fun h => nomatch h) (And.intro rfl (And.intro rfl (And.intro trivial (And.intro trivial ?_)))))))
      refine condN hF (fun hF => ?_) (fun hF => ?_)
      · refine gdYF ?_
        obtain ⟨r9, hr9, hF⟩ := bindE hF
        refine Or.inl (And.intro f25_in (callV0 (callI C25 d r9 [] false C25_holds hr9 rfl rfl ?_)))
        refine (And.intro rfl (And.intro (fun h => nomatch h) (And.intro rfl (And.intro rfl (And.intro trivial (And.intro trivial ?_))))))
        refine gdYF ?_
        refine condF ?_
        have hz := someE hF
        subst hz
        refine Exists.intro [] (Exists.intro [] (Exists.intro [] (Exists.intro [] (Exists.intro [(0, some 0), (1, some 1)] (And.intro rfl (And.intro rfl (And.intro rfl (And.intro (And.intro rfl (And.intro rfl trivial)) (And.intro rfl (And.intro rfl trivial))))))))))
      · refine gdNF ?_
        refine gdNF ?_
        refine condT ?_
        have hz := someE hF
        subst hz
        refine Exists.intro [] (Exists.intro [] (Exists.intro [] (Exists.intro [] (Exists.intro [(0, some 0), (1, some 1)] (And.intro rfl (And.intro rfl (And.intro rfl (And.intro (And.intro rfl (And.intro rfl trivial)) (And.intro rfl (And.intro rfl trivial))))))))))
    · refine And.intro ?_ trivial
      refine condI hF (fun hF => ?_) (fun hF => ?_)
      · refine Or.inl ?_
        refine Or.inl ?_
        have hz := someE hF
        subst hz
        refine Exists.intro [] (Exists.intro [] (Exists.intro [] (Exists.intro [] (Exists.intro [(0, some 1)] (And.intro rfl (And.intro rfl (And.intro (And.intro rfl trivial) (And.intro rfl trivial))))))))
      · refine Or.inl ?_
        refine Exists.intro (.take 0 (.take 2 (.take 3 (.take 4 (.alt 1 (.take 5 (.take 6 .done)) .done))))) (Exists.intro [] (Exists.intro [] (And.intro rfl ?_)))
        refine And.intro trivial ?_
        obtain ⟨q3_1, hq3_1, hF⟩ := bindE hF
        refine Or.inl (And.intro f26_in (callV0 (callI C26 d q3_1 [] false C26_holds hq3_1 rfl rfl ?_)))
        refine (And.intro rfl (And.intro (fun h => nomatch h) (And.intro rfl (And.intro rfl (And.intro trivial (And.intro trivial ?_))))))
        refine condI hF (fun hF => ?_) (fun hF => ?_)
        · refine Or.inl ?_
          refine Or.inl ?_
          have hz := someE hF
          subst hz
          refine Exists.intro [] (Exists.intro [] (Exists.intro [] (Exists.intro [] (Exists.intro [(0, some 1)] (And.intro rfl (And.intro rfl (And.intro (And.intro rfl trivial) (And.intro rfl trivial))))))))
        · have hz := someE hF
          subst hz
          refine Exists.intro [] (Exists.intro [] (Exists.intro [] (Exists.intro [] (Exists.intro [(0, some 0), (1, some 1)] (And.intro rfl (And.intro rfl (And.intro (And.intro rfl (And.intro rfl trivial)) (And.intro rfl (And.intro rfl trivial)))))))))
  · rcases z5 with z5a | z5b
    · dsimp only [sumF] at hF
      refine And.intro ?_ trivial
      refine Or.inl ?_
      refine Exists.intro (.take 0 (.take 2 (.take 3 (.alt 1 (.alt 4 (.take 5 (.alt 6 (.take 7 .done) .done)) .done) .done)))) (Exists.intro [] (Exists.intro [] (And.intro rfl ?_)))
      refine And.intro trivial ?_
      obtain ⟨q5_1, hq5_1, hF⟩ := bindE hF
      refine Or.inl (And.intro f27_in (callV0 (callI C27 d q5_1 [] false C27_holds hq5_1 rfl rfl ?_)))
      refine (And.intro rfl (And.intro (fun h => nomatch h) (And.intro rfl (And.intro rfl (And.intro trivial (And.intro trivial ?_))))))
      refine And.intro trivial ?_
      obtain ⟨q5_4, hq5_4, hF⟩ := bindE hF
      refine Or.inl (And.intro f28_in (callV0 (callI C28 a.2 q5_4 [] false C28_holds hq5_4 rfl rfl ?_)))
      refine (And.intro rfl (And.intro (fun h => nomatch h) (And.intro rfl (And.intro rfl (And.intro trivial (And.intro trivial ?_))))))
      refine And.intro trivial ?_
      refine Or.inl ?_
      have hy := someE hF
      subst hy
      refine And.intro rfl (Exists.intro [] (Exists.intro [] (Exists.intro [] (Exists.intro [] (Exists.intro [(0, some 2), (1, some 3)] (And.intro rfl (And.intro rfl (And.intro (And.intro rfl trivial) (And.intro rfl (And.intro rfl trivial))))))))))
    · dsimp only [sumF] at hF
      refine And.intro ?_ trivial
      have hy := someE hF
      subst hy
      refine And.intro rfl (Exists.intro [] (Exists.intro [] (Exists.intro [] (Exists.intro [] (Exists.intro [(0, none), (1, none)] (And.intro rfl (And.intro rfl (And.intro (And.intro rfl trivial) (And.intro rfl (And.intro rfl trivial))))))))))
theorem C54_holds : C54.Holds Try.prog 54 := holds_of_vc tab_ok mixed (fn := Try.f54) (by kernel_rfl) rfl C54 (fun x y hF => C54_vc x.1 x.2 y hF)
theorem f54_in : ∃ fn, Try.prog.funcs[54]? = some fn ∧ fn.body.isSome = true ∧ (fn.name == "runtime.NumGoroutine") = false := ⟨Try.f54, by kernel_rfl, by kernel_rfl, by kernel_rfl⟩
end Go.Proofs
