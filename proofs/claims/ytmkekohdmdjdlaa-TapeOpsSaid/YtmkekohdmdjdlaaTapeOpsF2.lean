import Derived.Test.YtmkekohdmdjdlaaTapeOpsF1
set_option linter.unusedVariables false
set_option maxRecDepth 100000
set_option maxHeartbeats 8000000
namespace Go.Proofs
open Go.AM
-- math/bits.Div64
def f85_j4 (lo : Int) (y_ : Int) (q6_7 : Int) (q1 : Int) (rhat : Int) : Option (Sum Unit Unit) :=
  bif (decide (q1 ≥ (4294967296 : Int))) then
    some (Sum.inl ())
  else
    bif (decide ((IntKind.u64.wrap (q1 * (bitsOf IntKind.u64 (fun p q => p &&& q) (IntKind.u64.wrap (y_ * 2 ^ min (Int.toNat (IntKind.u64.wrap q6_7)) (IntKind.bits IntKind.u64))) (4294967295 : Int)))) > (IntKind.u64.wrap ((IntKind.u64.wrap ((4294967296 : Int) * rhat)) + (Int.fdiv (IntKind.u64.wrap (lo * 2 ^ min (Int.toNat (IntKind.u64.wrap q6_7)) (IntKind.bits IntKind.u64))) (2 ^ min (Int.toNat (32 : Int)) (IntKind.bits IntKind.u64))))))) then
      some (Sum.inl ())
    else
      some (Sum.inr ())
def f85_l3 (lo : Int) (y_ : Int) (q6_7 : Int) (go : (Int × Int) → Option Int) (q1 : Int) (rhat : Int) : Option Int :=
  bindF (f85_j4 lo y_ q6_7 q1 rhat) fun z4 =>
  sumF z4 (fun z4a =>
    bif (decide ((IntKind.u64.wrap (rhat + (Int.fdiv (IntKind.u64.wrap (y_ * 2 ^ min (Int.toNat (IntKind.u64.wrap q6_7)) (IntKind.bits IntKind.u64))) (2 ^ min (Int.toNat (32 : Int)) (IntKind.bits IntKind.u64))))) ≥ (4294967296 : Int))) then
      some (IntKind.u64.wrap (q1 - (1 : Int)))
    else
      go ((IntKind.u64.wrap (q1 - (1 : Int))), (IntKind.u64.wrap (rhat + (Int.fdiv (IntKind.u64.wrap (y_ * 2 ^ min (Int.toNat (IntKind.u64.wrap q6_7)) (IntKind.bits IntKind.u64))) (2 ^ min (Int.toNat (32 : Int)) (IntKind.bits IntKind.u64))))))) (fun z4b =>
    some q1)
def f85_j8 (lo : Int) (y_ : Int) (q6_7 : Int) (rhat : Int) (q0 : Int) : Option (Sum Unit Unit) :=
  bif (decide (q0 ≥ (4294967296 : Int))) then
    some (Sum.inl ())
  else
    bif (decide ((IntKind.u64.wrap (q0 * (bitsOf IntKind.u64 (fun p q => p &&& q) (IntKind.u64.wrap (y_ * 2 ^ min (Int.toNat (IntKind.u64.wrap q6_7)) (IntKind.bits IntKind.u64))) (4294967295 : Int)))) > (IntKind.u64.wrap ((IntKind.u64.wrap ((4294967296 : Int) * rhat)) + (bitsOf IntKind.u64 (fun p q => p &&& q) (IntKind.u64.wrap (lo * 2 ^ min (Int.toNat (IntKind.u64.wrap q6_7)) (IntKind.bits IntKind.u64))) (4294967295 : Int)))))) then
      some (Sum.inl ())
    else
      some (Sum.inr ())
def f85_l7 (lo : Int) (y_ : Int) (q6_7 : Int) (go : (Int × Int) → Option Int) (rhat : Int) (q0 : Int) : Option Int :=
  bindF (f85_j8 lo y_ q6_7 rhat q0) fun z8 =>
  sumF z8 (fun z8a =>
    bif (decide ((IntKind.u64.wrap (rhat + (Int.fdiv (IntKind.u64.wrap (y_ * 2 ^ min (Int.toNat (IntKind.u64.wrap q6_7)) (IntKind.bits IntKind.u64))) (2 ^ min (Int.toNat (32 : Int)) (IntKind.bits IntKind.u64))))) ≥ (4294967296 : Int))) then
      some (IntKind.u64.wrap (q0 - (1 : Int)))
    else
      go ((IntKind.u64.wrap (rhat + (Int.fdiv (IntKind.u64.wrap (y_ * 2 ^ min (Int.toNat (IntKind.u64.wrap q6_7)) (IntKind.bits IntKind.u64))) (2 ^ min (Int.toNat (32 : Int)) (IntKind.bits IntKind.u64))))), (IntKind.u64.wrap (q0 - (1 : Int))))) (fun z8b =>
    some q0)
def f85 (hi : Int) (lo : Int) (y_ : Int) : Option (Int × Int) :=
  bif (y_ == (0 : Int)) then
    none
  else
    bif (decide (y_ ≤ hi)) then
      none
    else
      bif (hi == (0 : Int)) then
        guardF (y_ ≠ 0) <|
        guardF (y_ ≠ 0) <|
        some ((IntKind.u64.wrap (Int.tdiv lo y_)), (Int.tmod lo y_))
      else
        bindF (f103 y_) fun q6_7 =>
        guardF (0 ≤ (IntKind.u64.wrap q6_7)) <|
        guardF (0 ≤ (IntKind.u64.wrap q6_7)) <|
        guardF (0 ≤ (IntKind.u64.wrap ((64 : Int) - (IntKind.u64.wrap q6_7)))) <|
        guardF (0 ≤ (IntKind.u64.wrap q6_7)) <|
        guardF ((Int.fdiv (IntKind.u64.wrap (y_ * 2 ^ min (Int.toNat (IntKind.u64.wrap q6_7)) (IntKind.bits IntKind.u64))) (2 ^ min (Int.toNat (32 : Int)) (IntKind.bits IntKind.u64))) ≠ 0) <|
        bindF (loopF (fun go x => f85_l3 lo y_ q6_7 go x.1 x.2) fuelN ((IntKind.u64.wrap (Int.tdiv (bitsOf IntKind.u64 (fun p q => p ||| q) (IntKind.u64.wrap (hi * 2 ^ min (Int.toNat (IntKind.u64.wrap q6_7)) (IntKind.bits IntKind.u64))) (Int.fdiv lo (2 ^ min (Int.toNat (IntKind.u64.wrap ((64 : Int) - (IntKind.u64.wrap q6_7)))) (IntKind.bits IntKind.u64)))) (Int.fdiv (IntKind.u64.wrap (y_ * 2 ^ min (Int.toNat (IntKind.u64.wrap q6_7)) (IntKind.bits IntKind.u64))) (2 ^ min (Int.toNat (32 : Int)) (IntKind.bits IntKind.u64))))), (IntKind.u64.wrap ((bitsOf IntKind.u64 (fun p q => p ||| q) (IntKind.u64.wrap (hi * 2 ^ min (Int.toNat (IntKind.u64.wrap q6_7)) (IntKind.bits IntKind.u64))) (Int.fdiv lo (2 ^ min (Int.toNat (IntKind.u64.wrap ((64 : Int) - (IntKind.u64.wrap q6_7)))) (IntKind.bits IntKind.u64)))) - (IntKind.u64.wrap ((IntKind.u64.wrap (Int.tdiv (bitsOf IntKind.u64 (fun p q => p ||| q) (IntKind.u64.wrap (hi * 2 ^ min (Int.toNat (IntKind.u64.wrap q6_7)) (IntKind.bits IntKind.u64))) (Int.fdiv lo (2 ^ min (Int.toNat (IntKind.u64.wrap ((64 : Int) - (IntKind.u64.wrap q6_7)))) (IntKind.bits IntKind.u64)))) (Int.fdiv (IntKind.u64.wrap (y_ * 2 ^ min (Int.toNat (IntKind.u64.wrap q6_7)) (IntKind.bits IntKind.u64))) (2 ^ min (Int.toNat (32 : Int)) (IntKind.bits IntKind.u64))))) * (Int.fdiv (IntKind.u64.wrap (y_ * 2 ^ min (Int.toNat (IntKind.u64.wrap q6_7)) (IntKind.bits IntKind.u64))) (2 ^ min (Int.toNat (32 : Int)) (IntKind.bits IntKind.u64))))))))) fun z3 =>
        guardF ((Int.fdiv (IntKind.u64.wrap (y_ * 2 ^ min (Int.toNat (IntKind.u64.wrap q6_7)) (IntKind.bits IntKind.u64))) (2 ^ min (Int.toNat (32 : Int)) (IntKind.bits IntKind.u64))) ≠ 0) <|
        bindF (loopF (fun go x => f85_l7 lo y_ q6_7 go x.1 x.2) fuelN ((IntKind.u64.wrap ((IntKind.u64.wrap ((IntKind.u64.wrap ((IntKind.u64.wrap ((bitsOf IntKind.u64 (fun p q => p ||| q) (IntKind.u64.wrap (hi * 2 ^ min (Int.toNat (IntKind.u64.wrap q6_7)) (IntKind.bits IntKind.u64))) (Int.fdiv lo (2 ^ min (Int.toNat (IntKind.u64.wrap ((64 : Int) - (IntKind.u64.wrap q6_7)))) (IntKind.bits IntKind.u64)))) * (4294967296 : Int))) + (Int.fdiv (IntKind.u64.wrap (lo * 2 ^ min (Int.toNat (IntKind.u64.wrap q6_7)) (IntKind.bits IntKind.u64))) (2 ^ min (Int.toNat (32 : Int)) (IntKind.bits IntKind.u64))))) - (IntKind.u64.wrap (z3 * (IntKind.u64.wrap (y_ * 2 ^ min (Int.toNat (IntKind.u64.wrap q6_7)) (IntKind.bits IntKind.u64))))))) - (IntKind.u64.wrap ((IntKind.u64.wrap (Int.tdiv (IntKind.u64.wrap ((IntKind.u64.wrap ((IntKind.u64.wrap ((bitsOf IntKind.u64 (fun p q => p ||| q) (IntKind.u64.wrap (hi * 2 ^ min (Int.toNat (IntKind.u64.wrap q6_7)) (IntKind.bits IntKind.u64))) (Int.fdiv lo (2 ^ min (Int.toNat (IntKind.u64.wrap ((64 : Int) - (IntKind.u64.wrap q6_7)))) (IntKind.bits IntKind.u64)))) * (4294967296 : Int))) + (Int.fdiv (IntKind.u64.wrap (lo * 2 ^ min (Int.toNat (IntKind.u64.wrap q6_7)) (IntKind.bits IntKind.u64))) (2 ^ min (Int.toNat (32 : Int)) (IntKind.bits IntKind.u64))))) - (IntKind.u64.wrap (z3 * (IntKind.u64.wrap (y_ * 2 ^ min (Int.toNat (IntKind.u64.wrap q6_7)) (IntKind.bits IntKind.u64))))))) (Int.fdiv (IntKind.u64.wrap (y_ * 2 ^ min (Int.toNat (IntKind.u64.wrap q6_7)) (IntKind.bits IntKind.u64))) (2 ^ min (Int.toNat (32 : Int)) (IntKind.bits IntKind.u64))))) * (Int.fdiv (IntKind.u64.wrap (y_ * 2 ^ min (Int.toNat (IntKind.u64.wrap q6_7)) (IntKind.bits IntKind.u64))) (2 ^ min (Int.toNat (32 : Int)) (IntKind.bits IntKind.u64))))))), (IntKind.u64.wrap (Int.tdiv (IntKind.u64.wrap ((IntKind.u64.wrap ((IntKind.u64.wrap ((bitsOf IntKind.u64 (fun p q => p ||| q) (IntKind.u64.wrap (hi * 2 ^ min (Int.toNat (IntKind.u64.wrap q6_7)) (IntKind.bits IntKind.u64))) (Int.fdiv lo (2 ^ min (Int.toNat (IntKind.u64.wrap ((64 : Int) - (IntKind.u64.wrap q6_7)))) (IntKind.bits IntKind.u64)))) * (4294967296 : Int))) + (Int.fdiv (IntKind.u64.wrap (lo * 2 ^ min (Int.toNat (IntKind.u64.wrap q6_7)) (IntKind.bits IntKind.u64))) (2 ^ min (Int.toNat (32 : Int)) (IntKind.bits IntKind.u64))))) - (IntKind.u64.wrap (z3 * (IntKind.u64.wrap (y_ * 2 ^ min (Int.toNat (IntKind.u64.wrap q6_7)) (IntKind.bits IntKind.u64))))))) (Int.fdiv (IntKind.u64.wrap (y_ * 2 ^ min (Int.toNat (IntKind.u64.wrap q6_7)) (IntKind.bits IntKind.u64))) (2 ^ min (Int.toNat (32 : Int)) (IntKind.bits IntKind.u64))))))) fun z7 =>
        guardF (0 ≤ (IntKind.u64.wrap q6_7)) <|
        some ((IntKind.u64.wrap ((IntKind.u64.wrap (z3 * (4294967296 : Int))) + z7)), (Int.fdiv (IntKind.u64.wrap ((IntKind.u64.wrap ((IntKind.u64.wrap ((IntKind.u64.wrap ((IntKind.u64.wrap ((IntKind.u64.wrap ((bitsOf IntKind.u64 (fun p q => p ||| q) (IntKind.u64.wrap (hi * 2 ^ min (Int.toNat (IntKind.u64.wrap q6_7)) (IntKind.bits IntKind.u64))) (Int.fdiv lo (2 ^ min (Int.toNat (IntKind.u64.wrap ((64 : Int) - (IntKind.u64.wrap q6_7)))) (IntKind.bits IntKind.u64)))) * (4294967296 : Int))) + (Int.fdiv (IntKind.u64.wrap (lo * 2 ^ min (Int.toNat (IntKind.u64.wrap q6_7)) (IntKind.bits IntKind.u64))) (2 ^ min (Int.toNat (32 : Int)) (IntKind.bits IntKind.u64))))) - (IntKind.u64.wrap (z3 * (IntKind.u64.wrap (y_ * 2 ^ min (Int.toNat (IntKind.u64.wrap q6_7)) (IntKind.bits IntKind.u64))))))) * (4294967296 : Int))) + (bitsOf IntKind.u64 (fun p q => p &&& q) (IntKind.u64.wrap (lo * 2 ^ min (Int.toNat (IntKind.u64.wrap q6_7)) (IntKind.bits IntKind.u64))) (4294967295 : Int)))) - (IntKind.u64.wrap (z7 * (IntKind.u64.wrap (y_ * 2 ^ min (Int.toNat (IntKind.u64.wrap q6_7)) (IntKind.bits IntKind.u64))))))) (2 ^ min (Int.toNat (IntKind.u64.wrap q6_7)) (IntKind.bits IntKind.u64))))
def C85 : Con where
  X := Int × Int × Int
  Y := Int × Int
  e := 0
  args x := [.dat (.int .u64) x.1, .dat (.int .u64) x.2.1, .dat (.int .u64) x.2.2]
  hin x := []
  F x := f85 x.1 x.2.1 x.2.2
  ret y := [.dat (.int .u64) y.1, .dat (.int .u64) y.2]
  hout y := []
  nout := 0
theorem C85_vc (hi : Int) (lo : Int) (y_ : Int) (y : Int × Int) (hF : f85 hi lo y_ = some y) : vc Try.prog tab Try.f85.ntmps 0 (match Try.f85.body with | some c => c | none => .skip) (retK tab C85 Try.f85.results.toList y) (C85.shIn (hi, lo, y_)).st := by
  unfold f85 at hF
  refine Or.inl ?_
  refine Or.inl ?_
  refine Or.inl ?_
  refine condI hF (fun hF => ?_) (fun hF => ?_)
  · exact nomatch hF
  · refine Or.inl ?_
    refine Or.inl ?_
    refine condI hF (fun hF => ?_) (fun hF => ?_)
    · exact nomatch hF
    · refine Or.inl ?_
      refine Or.inl ?_
      refine condI hF (fun hF => ?_) (fun hF => ?_)
      · refine Or.inl ?_
        refine Exists.intro (.take 0 (.take 1 (.take 2 (.take 3 (.take 4 (.take 5 (.take 6 (.take 7 .done)))))))) (Exists.intro [] (Exists.intro [] (And.intro rfl ?_)))
        refine guardI hF (fun hF => ?_)
        refine guardI hF (fun hF => ?_)
        have hy := someE hF
        subst hy
        refine And.intro rfl (Exists.intro [] (Exists.intro [] (Exists.intro [] (Exists.intro [] (Exists.intro [] (And.intro rfl (And.intro rfl (And.intro rfl (And.intro trivial trivial)))))))))
      · refine Or.inl ?_
        obtain ⟨q6_7, hq6_7, hF⟩ := bindE hF
        refine Or.inl (And.intro f103_in (callV0 (callI C103 y_ q6_7 [] false C103_holds hq6_7 rfl rfl ?_)))
        refine (And.intro rfl (And.intro (fun h => nomatch h) (And.intro rfl (And.intro rfl (And.intro trivial (And.intro trivial ?_))))))
        refine Or.inl ?_
        refine guardI hF (fun hF => ?_)
        refine Or.inl ?_
        refine And.intro (by decide) ?_
        refine Or.inl ?_
        refine Or.inl ?_
        refine guardI hF (fun hF => ?_)
        refine guardI hF (fun hF => ?_)
        refine Or.inl ?_
        refine guardI hF (fun hF => ?_)
        refine Or.inl ?_
        refine And.intro (by decide) ?_
        refine Or.inl ?_
        refine Or.inl ?_
        refine guardI hF (fun hF => ?_)
        refine Or.inl ?_
        refine Or.inl ?_
        obtain ⟨z3, hz3, hF⟩ := bindE hF
        refine loopI (Int × Int) Int (fun x => ⟨[(2, .dat (.int .u64) (IntKind.u64.wrap (y_ * 2 ^ min (Int.toNat (IntKind.u64.wrap q6_7)) (IntKind.bits IntKind.u64)))), (8, .dat (.int .u64) (IntKind.u64.wrap q6_7)), (9, .dat (.int .u64) (Int.fdiv (IntKind.u64.wrap (y_ * 2 ^ min (Int.toNat (IntKind.u64.wrap q6_7)) (IntKind.bits IntKind.u64))) (2 ^ min (Int.toNat (32 : Int)) (IntKind.bits IntKind.u64)))), (10, .dat (.int .u64) (bitsOf IntKind.u64 (fun p q => p &&& q) (IntKind.u64.wrap (y_ * 2 ^ min (Int.toNat (IntKind.u64.wrap q6_7)) (IntKind.bits IntKind.u64))) (4294967295 : Int))), (11, .dat (.int .u64) (bitsOf IntKind.u64 (fun p q => p ||| q) (IntKind.u64.wrap (hi * 2 ^ min (Int.toNat (IntKind.u64.wrap q6_7)) (IntKind.bits IntKind.u64))) (Int.fdiv lo (2 ^ min (Int.toNat (IntKind.u64.wrap ((64 : Int) - (IntKind.u64.wrap q6_7)))) (IntKind.bits IntKind.u64))))), (13, .dat (.int .u64) (Int.fdiv (IntKind.u64.wrap (lo * 2 ^ min (Int.toNat (IntKind.u64.wrap q6_7)) (IntKind.bits IntKind.u64))) (2 ^ min (Int.toNat (32 : Int)) (IntKind.bits IntKind.u64)))), (14, .dat (.int .u64) (bitsOf IntKind.u64 (fun p q => p &&& q) (IntKind.u64.wrap (lo * 2 ^ min (Int.toNat (IntKind.u64.wrap q6_7)) (IntKind.bits IntKind.u64))) (4294967295 : Int))), (15, .dat (.int .u64) x.1), (16, .dat (.int .u64) x.2)], [], 0⟩) (fun z => [(2, ⟨[(2, .dat (.int .u64) (IntKind.u64.wrap (y_ * 2 ^ min (Int.toNat (IntKind.u64.wrap q6_7)) (IntKind.bits IntKind.u64)))), (8, .dat (.int .u64) (IntKind.u64.wrap q6_7)), (9, .dat (.int .u64) (Int.fdiv (IntKind.u64.wrap (y_ * 2 ^ min (Int.toNat (IntKind.u64.wrap q6_7)) (IntKind.bits IntKind.u64))) (2 ^ min (Int.toNat (32 : Int)) (IntKind.bits IntKind.u64)))), (10, .dat (.int .u64) (bitsOf IntKind.u64 (fun p q => p &&& q) (IntKind.u64.wrap (y_ * 2 ^ min (Int.toNat (IntKind.u64.wrap q6_7)) (IntKind.bits IntKind.u64))) (4294967295 : Int))), (11, .dat (.int .u64) (bitsOf IntKind.u64 (fun p q => p ||| q) (IntKind.u64.wrap (hi * 2 ^ min (Int.toNat (IntKind.u64.wrap q6_7)) (IntKind.bits IntKind.u64))) (Int.fdiv lo (2 ^ min (Int.toNat (IntKind.u64.wrap ((64 : Int) - (IntKind.u64.wrap q6_7)))) (IntKind.bits IntKind.u64))))), (13, .dat (.int .u64) (Int.fdiv (IntKind.u64.wrap (lo * 2 ^ min (Int.toNat (IntKind.u64.wrap q6_7)) (IntKind.bits IntKind.u64))) (2 ^ min (Int.toNat (32 : Int)) (IntKind.bits IntKind.u64)))), (14, .dat (.int .u64) (bitsOf IntKind.u64 (fun p q => p &&& q) (IntKind.u64.wrap (lo * 2 ^ min (Int.toNat (IntKind.u64.wrap q6_7)) (IntKind.bits IntKind.u64))) (4294967295 : Int))), (15, .dat (.int .u64) z)], [], 0⟩)]) (loopF (fun go x => f85_l3 lo y_ q6_7 go x.1 x.2)) fuelN ((IntKind.u64.wrap (Int.tdiv (bitsOf IntKind.u64 (fun p q => p ||| q) (IntKind.u64.wrap (hi * 2 ^ min (Int.toNat (IntKind.u64.wrap q6_7)) (IntKind.bits IntKind.u64))) (Int.fdiv lo (2 ^ min (Int.toNat (IntKind.u64.wrap ((64 : Int) - (IntKind.u64.wrap q6_7)))) (IntKind.bits IntKind.u64)))) (Int.fdiv (IntKind.u64.wrap (y_ * 2 ^ min (Int.toNat (IntKind.u64.wrap q6_7)) (IntKind.bits IntKind.u64))) (2 ^ min (Int.toNat (32 : Int)) (IntKind.bits IntKind.u64))))), (IntKind.u64.wrap ((bitsOf IntKind.u64 (fun p q => p ||| q) (IntKind.u64.wrap (hi * 2 ^ min (Int.toNat (IntKind.u64.wrap q6_7)) (IntKind.bits IntKind.u64))) (Int.fdiv lo (2 ^ min (Int.toNat (IntKind.u64.wrap ((64 : Int) - (IntKind.u64.wrap q6_7)))) (IntKind.bits IntKind.u64)))) - (IntKind.u64.wrap ((IntKind.u64.wrap (Int.tdiv (bitsOf IntKind.u64 (fun p q => p ||| q) (IntKind.u64.wrap (hi * 2 ^ min (Int.toNat (IntKind.u64.wrap q6_7)) (IntKind.bits IntKind.u64))) (Int.fdiv lo (2 ^ min (Int.toNat (IntKind.u64.wrap ((64 : Int) - (IntKind.u64.wrap q6_7)))) (IntKind.bits IntKind.u64)))) (Int.fdiv (IntKind.u64.wrap (y_ * 2 ^ min (Int.toNat (IntKind.u64.wrap q6_7)) (IntKind.bits IntKind.u64))) (2 ^ min (Int.toNat (32 : Int)) (IntKind.bits IntKind.u64))))) * (Int.fdiv (IntKind.u64.wrap (y_ * 2 ^ min (Int.toNat (IntKind.u64.wrap q6_7)) (IntKind.bits IntKind.u64))) (2 ^ min (Int.toNat (32 : Int)) (IntKind.bits IntKind.u64)))))))) z3 (And.intro hz3 (And.intro (Exists.intro [] (Exists.intro [] (Exists.intro [] (Exists.intro [] (Exists.intro [] (And.intro rfl (And.intro rfl (And.intro rfl (And.intro rfl (And.intro rfl (And.intro rfl (And.intro rfl (And.intro rfl (And.intro rfl (And.intro rfl (And.intro trivial trivial)))))))))))))))) (And.intro (fun _ _ h => loopZ h) (And.intro (fun m => curI (fun q1 => fun rhat z hF => ?_)) ?_))))
        · have hF : f85_l3 lo y_ q6_7 (loopF (fun go x => f85_l3 lo y_ q6_7 go x.1 x.2) m) q1 rhat = some z := hF
          unfold f85_l3 at hF
          obtain ⟨z4, hz4, hF⟩ := bindE hF
          refine Or.inr ⟨Sum.elim (fun z4a => [(0, ⟨[(2, .dat (.int .u64) (IntKind.u64.wrap (y_ * 2 ^ min (Int.toNat (IntKind.u64.wrap q6_7)) (IntKind.bits IntKind.u64)))), (8, .dat (.int .u64) (IntKind.u64.wrap q6_7)), (9, .dat (.int .u64) (Int.fdiv (IntKind.u64.wrap (y_ * 2 ^ min (Int.toNat (IntKind.u64.wrap q6_7)) (IntKind.bits IntKind.u64))) (2 ^ min (Int.toNat (32 : Int)) (IntKind.bits IntKind.u64)))), (10, .dat (.int .u64) (bitsOf IntKind.u64 (fun p q => p &&& q) (IntKind.u64.wrap (y_ * 2 ^ min (Int.toNat (IntKind.u64.wrap q6_7)) (IntKind.bits IntKind.u64))) (4294967295 : Int))), (11, .dat (.int .u64) (bitsOf IntKind.u64 (fun p q => p ||| q) (IntKind.u64.wrap (hi * 2 ^ min (Int.toNat (IntKind.u64.wrap q6_7)) (IntKind.bits IntKind.u64))) (Int.fdiv lo (2 ^ min (Int.toNat (IntKind.u64.wrap ((64 : Int) - (IntKind.u64.wrap q6_7)))) (IntKind.bits IntKind.u64))))), (13, .dat (.int .u64) (Int.fdiv (IntKind.u64.wrap (lo * 2 ^ min (Int.toNat (IntKind.u64.wrap q6_7)) (IntKind.bits IntKind.u64))) (2 ^ min (Int.toNat (32 : Int)) (IntKind.bits IntKind.u64)))), (14, .dat (.int .u64) (bitsOf IntKind.u64 (fun p q => p &&& q) (IntKind.u64.wrap (lo * 2 ^ min (Int.toNat (IntKind.u64.wrap q6_7)) (IntKind.bits IntKind.u64))) (4294967295 : Int))), (15, .dat (.int .u64) q1), (16, .dat (.int .u64) rhat)], [], 0⟩)]) (fun z4b => [(2, ⟨[(2, .dat (.int .u64) (IntKind.u64.wrap (y_ * 2 ^ min (Int.toNat (IntKind.u64.wrap q6_7)) (IntKind.bits IntKind.u64)))), (8, .dat (.int .u64) (IntKind.u64.wrap q6_7)), (9, .dat (.int .u64) (Int.fdiv (IntKind.u64.wrap (y_ * 2 ^ min (Int.toNat (IntKind.u64.wrap q6_7)) (IntKind.bits IntKind.u64))) (2 ^ min (Int.toNat (32 : Int)) (IntKind.bits IntKind.u64)))), (10, .dat (.int .u64) (bitsOf IntKind.u64 (fun p q => p &&& q) (IntKind.u64.wrap (y_ * 2 ^ min (Int.toNat (IntKind.u64.wrap q6_7)) (IntKind.bits IntKind.u64))) (4294967295 : Int))), (11, .dat (.int .u64) (bitsOf IntKind.u64 (fun p q => p ||| q) (IntKind.u64.wrap (hi * 2 ^ min (Int.toNat (IntKind.u64.wrap q6_7)) (IntKind.bits IntKind.u64))) (Int.fdiv lo (2 ^ min (Int.toNat (IntKind.u64.wrap ((64 : Int) - (IntKind.u64.wrap q6_7)))) (IntKind.bits IntKind.u64))))), (13, .dat (.int .u64) (Int.fdiv (IntKind.u64.wrap (lo * 2 ^ min (Int.toNat (IntKind.u64.wrap q6_7)) (IntKind.bits IntKind.u64))) (2 ^ min (Int.toNat (32 : Int)) (IntKind.bits IntKind.u64)))), (14, .dat (.int .u64) (bitsOf IntKind.u64 (fun p q => p &&& q) (IntKind.u64.wrap (lo * 2 ^ min (Int.toNat (IntKind.u64.wrap q6_7)) (IntKind.bits IntKind.u64))) (4294967295 : Int))), (15, .dat (.int .u64) q1)], [], 0⟩)]) z4, ?_, ?_⟩
          · have hF := hz4
            clear hz4
            unfold f85_j4 at hF
            refine Or.inl ?_
            refine condN hF (fun hF => ?_) (fun hF => ?_)
            · refine gdYF ?_
              refine gdYF ?_
              refine gdYF ?_
              refine gdYF ?_
              refine gdYF ?_
              refine gdYF ?_
              refine gdYF ?_
              refine condF ?_
              refine condI hF (fun hF => ?_) (fun hF => ?_)
              · have hz := someE hF
                subst hz
                refine Exists.intro [] (Exists.intro [] (Exists.intro [] (Exists.intro [] (Exists.intro [] (And.intro rfl (And.intro rfl (And.intro rfl (And.intro rfl (And.intro rfl (And.intro rfl (And.intro rfl (And.intro rfl (And.intro rfl (And.intro rfl (And.intro trivial trivial)))))))))))))))
              · have hz := someE hF
                subst hz
                refine Exists.intro [] (Exists.intro [] (Exists.intro [] (Exists.intro [] (Exists.intro [] (And.intro rfl (And.intro rfl (And.intro rfl (And.intro rfl (And.intro rfl (And.intro rfl (And.intro rfl (And.intro rfl (And.intro rfl (And.intro trivial trivial))))))))))))))
            · refine gdNF ?_
              refine gdNF ?_
              refine gdNF ?_
              refine gdNF ?_
              refine gdNF ?_
              refine gdNF ?_
              refine gdNF ?_
              refine condT ?_
              refine condT ?_
              have hz := someE hF
              subst hz
              refine Exists.intro [] (Exists.intro [] (Exists.intro [] (Exists.intro [] (Exists.intro [] (And.intro rfl (And.intro rfl (And.intro rfl (And.intro rfl (And.intro rfl (And.intro rfl (And.intro rfl (And.intro rfl (And.intro rfl (And.intro rfl (And.intro trivial trivial)))))))))))))))
          · rcases z4 with z4a | z4b
            · dsimp only [sumF] at hF
              refine And.intro ?_ trivial
              refine Or.inl ?_
              refine Or.inl ?_
              refine Or.inl ?_
              refine condI hF (fun hF => ?_) (fun hF => ?_)
              · have hz := someE hF
                subst hz
                refine Exists.intro [] (Exists.intro [] (Exists.intro [] (Exists.intro [] (Exists.intro [] (And.intro rfl (And.intro rfl (And.intro rfl (And.intro rfl (And.intro rfl (And.intro rfl (And.intro rfl (And.intro rfl (And.intro rfl (And.intro trivial trivial))))))))))))))
              · refine Exists.intro ((IntKind.u64.wrap (q1 - (1 : Int))), (IntKind.u64.wrap (rhat + (Int.fdiv (IntKind.u64.wrap (y_ * 2 ^ min (Int.toNat (IntKind.u64.wrap q6_7)) (IntKind.bits IntKind.u64))) (2 ^ min (Int.toNat (32 : Int)) (IntKind.bits IntKind.u64)))))) (And.intro hF (Exists.intro [] (Exists.intro [] (Exists.intro [] (Exists.intro [] (Exists.intro [] (And.intro rfl (And.intro rfl (And.intro rfl (And.intro rfl (And.intro rfl (And.intro rfl (And.intro rfl (And.intro rfl (And.intro rfl (And.intro rfl (And.intro trivial trivial)))))))))))))))))
            · dsimp only [sumF] at hF
              refine And.intro ?_ trivial
              have hz := someE hF
              subst hz
              refine Exists.intro [] (Exists.intro [] (Exists.intro [] (Exists.intro [] (Exists.intro [] (And.intro rfl (And.intro rfl (And.intro rfl (And.intro rfl (And.intro rfl (And.intro rfl (And.intro rfl (And.intro rfl (And.intro rfl (And.intro trivial trivial))))))))))))))
        · refine And.intro ?_ trivial
          refine Or.inl ?_
          refine Or.inl ?_
          refine guardI hF (fun hF => ?_)
          refine Or.inl ?_
          refine Or.inl ?_
          obtain ⟨z7, hz7, hF⟩ := bindE hF
          refine loopI (Int × Int) Int (fun x => ⟨[(2, .dat (.int .u64) (IntKind.u64.wrap (y_ * 2 ^ min (Int.toNat (IntKind.u64.wrap q6_7)) (IntKind.bits IntKind.u64)))), (8, .dat (.int .u64) (IntKind.u64.wrap q6_7)), (9, .dat (.int .u64) (Int.fdiv (IntKind.u64.wrap (y_ * 2 ^ min (Int.toNat (IntKind.u64.wrap q6_7)) (IntKind.bits IntKind.u64))) (2 ^ min (Int.toNat (32 : Int)) (IntKind.bits IntKind.u64)))), (10, .dat (.int .u64) (bitsOf IntKind.u64 (fun p q => p &&& q) (IntKind.u64.wrap (y_ * 2 ^ min (Int.toNat (IntKind.u64.wrap q6_7)) (IntKind.bits IntKind.u64))) (4294967295 : Int))), (14, .dat (.int .u64) (bitsOf IntKind.u64 (fun p q => p &&& q) (IntKind.u64.wrap (lo * 2 ^ min (Int.toNat (IntKind.u64.wrap q6_7)) (IntKind.bits IntKind.u64))) (4294967295 : Int))), (15, .dat (.int .u64) z3), (16, .dat (.int .u64) x.1), (17, .dat (.int .u64) (IntKind.u64.wrap ((IntKind.u64.wrap ((IntKind.u64.wrap ((bitsOf IntKind.u64 (fun p q => p ||| q) (IntKind.u64.wrap (hi * 2 ^ min (Int.toNat (IntKind.u64.wrap q6_7)) (IntKind.bits IntKind.u64))) (Int.fdiv lo (2 ^ min (Int.toNat (IntKind.u64.wrap ((64 : Int) - (IntKind.u64.wrap q6_7)))) (IntKind.bits IntKind.u64)))) * (4294967296 : Int))) + (Int.fdiv (IntKind.u64.wrap (lo * 2 ^ min (Int.toNat (IntKind.u64.wrap q6_7)) (IntKind.bits IntKind.u64))) (2 ^ min (Int.toNat (32 : Int)) (IntKind.bits IntKind.u64))))) - (IntKind.u64.wrap (z3 * (IntKind.u64.wrap (y_ * 2 ^ min (Int.toNat (IntKind.u64.wrap q6_7)) (IntKind.bits IntKind.u64)))))))), (18, .dat (.int .u64) x.2)], [], 0⟩) (fun z => [(4, ⟨[(2, .dat (.int .u64) (IntKind.u64.wrap (y_ * 2 ^ min (Int.toNat (IntKind.u64.wrap q6_7)) (IntKind.bits IntKind.u64)))), (8, .dat (.int .u64) (IntKind.u64.wrap q6_7)), (14, .dat (.int .u64) (bitsOf IntKind.u64 (fun p q => p &&& q) (IntKind.u64.wrap (lo * 2 ^ min (Int.toNat (IntKind.u64.wrap q6_7)) (IntKind.bits IntKind.u64))) (4294967295 : Int))), (15, .dat (.int .u64) z3), (17, .dat (.int .u64) (IntKind.u64.wrap ((IntKind.u64.wrap ((IntKind.u64.wrap ((bitsOf IntKind.u64 (fun p q => p ||| q) (IntKind.u64.wrap (hi * 2 ^ min (Int.toNat (IntKind.u64.wrap q6_7)) (IntKind.bits IntKind.u64))) (Int.fdiv lo (2 ^ min (Int.toNat (IntKind.u64.wrap ((64 : Int) - (IntKind.u64.wrap q6_7)))) (IntKind.bits IntKind.u64)))) * (4294967296 : Int))) + (Int.fdiv (IntKind.u64.wrap (lo * 2 ^ min (Int.toNat (IntKind.u64.wrap q6_7)) (IntKind.bits IntKind.u64))) (2 ^ min (Int.toNat (32 : Int)) (IntKind.bits IntKind.u64))))) - (IntKind.u64.wrap (z3 * (IntKind.u64.wrap (y_ * 2 ^ min (Int.toNat (IntKind.u64.wrap q6_7)) (IntKind.bits IntKind.u64)))))))), (18, .dat (.int .u64) z)], [], 0⟩)]) (loopF (fun go x => f85_l7 lo y_ q6_7 go x.1 x.2)) fuelN ((IntKind.u64.wrap ((IntKind.u64.wrap ((IntKind.u64.wrap ((IntKind.u64.wrap ((bitsOf IntKind.u64 (fun p q => p ||| q) (IntKind.u64.wrap (hi * 2 ^ min (Int.toNat (IntKind.u64.wrap q6_7)) (IntKind.bits IntKind.u64))) (Int.fdiv lo (2 ^ min (Int.toNat (IntKind.u64.wrap ((64 : Int) - (IntKind.u64.wrap q6_7)))) (IntKind.bits IntKind.u64)))) * (4294967296 : Int))) + (Int.fdiv (IntKind.u64.wrap (lo * 2 ^ min (Int.toNat (IntKind.u64.wrap q6_7)) (IntKind.bits IntKind.u64))) (2 ^ min (Int.toNat (32 : Int)) (IntKind.bits IntKind.u64))))) - (IntKind.u64.wrap (z3 * (IntKind.u64.wrap (y_ * 2 ^ min (Int.toNat (IntKind.u64.wrap q6_7)) (IntKind.bits IntKind.u64))))))) - (IntKind.u64.wrap ((IntKind.u64.wrap (Int.tdiv (IntKind.u64.wrap ((IntKind.u64.wrap ((IntKind.u64.wrap ((bitsOf IntKind.u64 (fun p q => p ||| q) (IntKind.u64.wrap (hi * 2 ^ min (Int.toNat (IntKind.u64.wrap q6_7)) (IntKind.bits IntKind.u64))) (Int.fdiv lo (2 ^ min (Int.toNat (IntKind.u64.wrap ((64 : Int) - (IntKind.u64.wrap q6_7)))) (IntKind.bits IntKind.u64)))) * (4294967296 : Int))) + (Int.fdiv (IntKind.u64.wrap (lo * 2 ^ min (Int.toNat (IntKind.u64.wrap q6_7)) (IntKind.bits IntKind.u64))) (2 ^ min (Int.toNat (32 : Int)) (IntKind.bits IntKind.u64))))) - (IntKind.u64.wrap (z3 * (IntKind.u64.wrap (y_ * 2 ^ min (Int.toNat (IntKind.u64.wrap q6_7)) (IntKind.bits IntKind.u64))))))) (Int.fdiv (IntKind.u64.wrap (y_ * 2 ^ min (Int.toNat (IntKind.u64.wrap q6_7)) (IntKind.bits IntKind.u64))) (2 ^ min (Int.toNat (32 : Int)) (IntKind.bits IntKind.u64))))) * (Int.fdiv (IntKind.u64.wrap (y_ * 2 ^ min (Int.toNat (IntKind.u64.wrap q6_7)) (IntKind.bits IntKind.u64))) (2 ^ min (Int.toNat (32 : Int)) (IntKind.bits IntKind.u64))))))), (IntKind.u64.wrap (Int.tdiv (IntKind.u64.wrap ((IntKind.u64.wrap ((IntKind.u64.wrap ((bitsOf IntKind.u64 (fun p q => p ||| q) (IntKind.u64.wrap (hi * 2 ^ min (Int.toNat (IntKind.u64.wrap q6_7)) (IntKind.bits IntKind.u64))) (Int.fdiv lo (2 ^ min (Int.toNat (IntKind.u64.wrap ((64 : Int) - (IntKind.u64.wrap q6_7)))) (IntKind.bits IntKind.u64)))) * (4294967296 : Int))) + (Int.fdiv (IntKind.u64.wrap (lo * 2 ^ min (Int.toNat (IntKind.u64.wrap q6_7)) (IntKind.bits IntKind.u64))) (2 ^ min (Int.toNat (32 : Int)) (IntKind.bits IntKind.u64))))) - (IntKind.u64.wrap (z3 * (IntKind.u64.wrap (y_ * 2 ^ min (Int.toNat (IntKind.u64.wrap q6_7)) (IntKind.bits IntKind.u64))))))) (Int.fdiv (IntKind.u64.wrap (y_ * 2 ^ min (Int.toNat (IntKind.u64.wrap q6_7)) (IntKind.bits IntKind.u64))) (2 ^ min (Int.toNat (32 : Int)) (IntKind.bits IntKind.u64)))))) z7 (And.intro hz7 (And.intro (Exists.intro [] (Exists.intro [] (Exists.intro [] (Exists.intro [] (Exists.intro [] (And.intro rfl (And.intro rfl (And.intro rfl (And.intro rfl (And.intro rfl (And.intro rfl (And.intro rfl (And.intro rfl (And.intro rfl (And.intro rfl (And.intro trivial trivial)))))))))))))))) (And.intro (fun _ _ h => loopZ h) (And.intro (fun m => curI (fun rhat => fun q0 z hF => ?_)) ?_))))
          · have hF : f85_l7 lo y_ q6_7 (loopF (fun go x => f85_l7 lo y_ q6_7 go x.1 x.2) m) rhat q0 = some z := hF
            unfold f85_l7 at hF
            obtain ⟨z8, hz8, hF⟩ := bindE hF
            refine Or.inr ⟨Sum.elim (fun z8a => [(0, ⟨[(2, .dat (.int .u64) (IntKind.u64.wrap (y_ * 2 ^ min (Int.toNat (IntKind.u64.wrap q6_7)) (IntKind.bits IntKind.u64)))), (8, .dat (.int .u64) (IntKind.u64.wrap q6_7)), (9, .dat (.int .u64) (Int.fdiv (IntKind.u64.wrap (y_ * 2 ^ min (Int.toNat (IntKind.u64.wrap q6_7)) (IntKind.bits IntKind.u64))) (2 ^ min (Int.toNat (32 : Int)) (IntKind.bits IntKind.u64)))), (10, .dat (.int .u64) (bitsOf IntKind.u64 (fun p q => p &&& q) (IntKind.u64.wrap (y_ * 2 ^ min (Int.toNat (IntKind.u64.wrap q6_7)) (IntKind.bits IntKind.u64))) (4294967295 : Int))), (14, .dat (.int .u64) (bitsOf IntKind.u64 (fun p q => p &&& q) (IntKind.u64.wrap (lo * 2 ^ min (Int.toNat (IntKind.u64.wrap q6_7)) (IntKind.bits IntKind.u64))) (4294967295 : Int))), (15, .dat (.int .u64) z3), (16, .dat (.int .u64) rhat), (17, .dat (.int .u64) (IntKind.u64.wrap ((IntKind.u64.wrap ((IntKind.u64.wrap ((bitsOf IntKind.u64 (fun p q => p ||| q) (IntKind.u64.wrap (hi * 2 ^ min (Int.toNat (IntKind.u64.wrap q6_7)) (IntKind.bits IntKind.u64))) (Int.fdiv lo (2 ^ min (Int.toNat (IntKind.u64.wrap ((64 : Int) - (IntKind.u64.wrap q6_7)))) (IntKind.bits IntKind.u64)))) * (4294967296 : Int))) + (Int.fdiv (IntKind.u64.wrap (lo * 2 ^ min (Int.toNat (IntKind.u64.wrap q6_7)) (IntKind.bits IntKind.u64))) (2 ^ min (Int.toNat (32 : Int)) (IntKind.bits IntKind.u64))))) - (IntKind.u64.wrap (z3 * (IntKind.u64.wrap (y_ * 2 ^ min (Int.toNat (IntKind.u64.wrap q6_7)) (IntKind.bits IntKind.u64)))))))), (18, .dat (.int .u64) q0)], [], 0⟩)]) (fun z8b => [(4, ⟨[(2, .dat (.int .u64) (IntKind.u64.wrap (y_ * 2 ^ min (Int.toNat (IntKind.u64.wrap q6_7)) (IntKind.bits IntKind.u64)))), (8, .dat (.int .u64) (IntKind.u64.wrap q6_7)), (14, .dat (.int .u64) (bitsOf IntKind.u64 (fun p q => p &&& q) (IntKind.u64.wrap (lo * 2 ^ min (Int.toNat (IntKind.u64.wrap q6_7)) (IntKind.bits IntKind.u64))) (4294967295 : Int))), (15, .dat (.int .u64) z3), (17, .dat (.int .u64) (IntKind.u64.wrap ((IntKind.u64.wrap ((IntKind.u64.wrap ((bitsOf IntKind.u64 (fun p q => p ||| q) (IntKind.u64.wrap (hi * 2 ^ min (Int.toNat (IntKind.u64.wrap q6_7)) (IntKind.bits IntKind.u64))) (Int.fdiv lo (2 ^ min (Int.toNat (IntKind.u64.wrap ((64 : Int) - (IntKind.u64.wrap q6_7)))) (IntKind.bits IntKind.u64)))) * (4294967296 : Int))) + (Int.fdiv (IntKind.u64.wrap (lo * 2 ^ min (Int.toNat (IntKind.u64.wrap q6_7)) (IntKind.bits IntKind.u64))) (2 ^ min (Int.toNat (32 : Int)) (IntKind.bits IntKind.u64))))) - (IntKind.u64.wrap (z3 * (IntKind.u64.wrap (y_ * 2 ^ min (Int.toNat (IntKind.u64.wrap q6_7)) (IntKind.bits IntKind.u64)))))))), (18, .dat (.int .u64) q0)], [], 0⟩)]) z8, ?_, ?_⟩
            · have hF := hz8
              clear hz8
              unfold f85_j8 at hF
              refine Or.inl ?_
              refine condN hF (fun hF => ?_) (fun hF => ?_)
              · refine gdYF ?_
                refine gdYF ?_
                refine gdYF ?_
                refine gdYF ?_
                refine gdYF ?_
                refine gdYF ?_
                refine gdYF ?_
                refine condF ?_
                refine condI hF (fun hF => ?_) (fun hF => ?_)
                · have hz := someE hF
                  subst hz
                  refine Exists.intro [] (Exists.intro [] (Exists.intro [] (Exists.intro [] (Exists.intro [] (And.intro rfl (And.intro rfl (And.intro rfl (And.intro rfl (And.intro rfl (And.intro rfl (And.intro rfl (And.intro rfl (And.intro rfl (And.intro rfl (And.intro trivial trivial)))))))))))))))
                · have hz := someE hF
                  subst hz
                  refine Exists.intro [] (Exists.intro [] (Exists.intro [] (Exists.intro [] (Exists.intro [] (And.intro rfl (And.intro rfl (And.intro rfl (And.intro rfl (And.intro rfl (And.intro rfl (And.intro rfl (And.intro trivial trivial))))))))))))
              · refine gdNF ?_
                refine gdNF ?_
                refine gdNF ?_
                refine gdNF ?_
                refine gdNF ?_
                refine gdNF ?_
                refine gdNF ?_
                refine condT ?_
                refine condT ?_
                have hz := someE hF
                subst hz
                refine Exists.intro [] (Exists.intro [] (Exists.intro [] (Exists.intro [] (Exists.intro [] (And.intro rfl (And.intro rfl (And.intro rfl (And.intro rfl (And.intro rfl (And.intro rfl (And.intro rfl (And.intro rfl (And.intro rfl (And.intro rfl (And.intro trivial trivial)))))))))))))))
            · rcases z8 with z8a | z8b
              · dsimp only [sumF] at hF
                refine And.intro ?_ trivial
                refine Or.inl ?_
                refine Or.inl ?_
                refine Or.inl ?_
                refine condI hF (fun hF => ?_) (fun hF => ?_)
                · have hz := someE hF
                  subst hz
                  refine Exists.intro [] (Exists.intro [] (Exists.intro [] (Exists.intro [] (Exists.intro [] (And.intro rfl (And.intro rfl (And.intro rfl (And.intro rfl (And.intro rfl (And.intro rfl (And.intro rfl (And.intro trivial trivial))))))))))))
                · refine Exists.intro ((IntKind.u64.wrap (rhat + (Int.fdiv (IntKind.u64.wrap (y_ * 2 ^ min (Int.toNat (IntKind.u64.wrap q6_7)) (IntKind.bits IntKind.u64))) (2 ^ min (Int.toNat (32 : Int)) (IntKind.bits IntKind.u64))))), (IntKind.u64.wrap (q0 - (1 : Int)))) (And.intro hF (Exists.intro [] (Exists.intro [] (Exists.intro [] (Exists.intro [] (Exists.intro [] (And.intro rfl (And.intro rfl (And.intro rfl (And.intro rfl (And.intro rfl (And.intro rfl (And.intro rfl (And.intro rfl (And.intro rfl (And.intro rfl (And.intro trivial trivial)))))))))))))))))
              · dsimp only [sumF] at hF
                refine And.intro ?_ trivial
                have hz := someE hF
                subst hz
                refine Exists.intro [] (Exists.intro [] (Exists.intro [] (Exists.intro [] (Exists.intro [] (And.intro rfl (And.intro rfl (And.intro rfl (And.intro rfl (And.intro rfl (And.intro rfl (And.intro rfl (And.intro trivial trivial))))))))))))
          · refine And.intro ?_ trivial
            refine Or.inl ?_
            refine guardI hF (fun hF => ?_)
            have hy := someE hF
            subst hy
            refine And.intro rfl (Exists.intro [] (Exists.intro [] (Exists.intro [] (Exists.intro [] (Exists.intro [] (And.intro rfl (And.intro rfl (And.intro rfl (And.intro trivial trivial)))))))))
theorem C85_holds : C85.Holds Try.prog 85 := holds_of_vc tab_ok mixed (fn := Try.f85) (by kernel_rfl) rfl C85 (fun x y hF => C85_vc x.1 x.2.1 x.2.2 y hF)
theorem f85_in : ∃ fn, Try.prog.funcs[85]? = some fn ∧ fn.body.isSome = true ∧ (fn.name == "runtime.NumGoroutine") = false := ⟨Try.f85, by kernel_rfl, by kernel_rfl, by kernel_rfl⟩
end Go.Proofs
namespace Go.Proofs
open Go.AM
-- carousel/fix.Div
def f81_j3 (r2 : Int) (r4 : Int × Int) : Option Bool :=
  bif (decide (r4.2 > (IntKind.u64.wrap (r2 - r4.2)))) then
    some true
  else
    bif (r4.2 == (IntKind.u64.wrap (r2 - r4.2))) then
      some ((bitsOf IntKind.u64 (fun p q => p &&& q) r4.1 (1 : Int)) == (1 : Int))
    else
      some false
def f81_j2 (r2 : Int) (r4 : Int × Int) : Option (Int × Int) :=
  bindF (f81_j3 r2 r4) fun z8 =>
  bif z8 then
    bindF (add64 r4.1 (1 : Int) (0 : Int)) fun r9 =>
    some (r9.1, r9.2)
  else
    some (r4.1, (0 : Int))
def f81 (a : Int) (b : Int) : Option Int :=
  bif (b == (0 : Int)) then
    bif (decide (a > (0 : Int))) then
      some (9223372036854775807 : Int)
    else
      bif (decide (a < (0 : Int))) then
        some (-9223372036854775808 : Int)
      else
        some (0 : Int)
  else
    bindF (f98 a) fun r1 =>
    bindF (f98 b) fun r2 =>
    bif (decide ((Int.fdiv r1 (2 ^ min (Int.toNat (32 : Int)) (IntKind.bits IntKind.u64))) ≥ r2)) then
      bindF (f99 (1 : Int) (0 : Int) (!((decide (a < (0 : Int))) == (decide (b < (0 : Int)))))) fun r3 =>
      some r3
    else
      bindF (f85 (Int.fdiv r1 (2 ^ min (Int.toNat (32 : Int)) (IntKind.bits IntKind.u64))) (IntKind.u64.wrap (r1 * 2 ^ min (Int.toNat (32 : Int)) (IntKind.bits IntKind.u64))) r2) fun r4 =>
      bindF (f81_j2 r2 r4) fun z7 =>
      bindF (f99 z7.2 z7.1 (!((decide (a < (0 : Int))) == (decide (b < (0 : Int)))))) fun r10 =>
      some r10
def C81 : Con where
  X := Int × Int
  Y := Int
  e := 0
  args x := [.dat (.int .i64) x.1, .dat (.int .i64) x.2]
  hin x := []
  F x := f81 x.1 x.2
  ret y := [.dat (.int .i64) y]
  hout y := []
  nout := 0
theorem C81_vc (a : Int) (b : Int) (y : Int) (hF : f81 a b = some y) : vc Try.prog tab Try.f81.ntmps 0 (match Try.f81.body with | some c => c | none => .skip) (retK tab C81 Try.f81.results.toList y) (C81.shIn (a, b)).st := by
  unfold f81 at hF
  refine Or.inl ?_
  refine Or.inl ?_
  refine Or.inl ?_
  refine condI hF (fun hF => ?_) (fun hF => ?_)
  · refine Or.inl ?_
    refine Or.inl ?_
    refine condI hF (fun hF => ?_) (fun hF => ?_)
    · refine Or.inl ?_
      have hy := someE hF
      subst hy
      refine And.intro rfl (Exists.intro [] (Exists.intro [] (Exists.intro [] (Exists.intro [] (Exists.intro [] (And.intro rfl (And.intro rfl (And.intro trivial trivial))))))))
    · refine Or.inl ?_
      refine condI hF (fun hF => ?_) (fun hF => ?_)
      · refine Or.inl ?_
        have hy := someE hF
        subst hy
        refine And.intro rfl (Exists.intro [] (Exists.intro [] (Exists.intro [] (Exists.intro [] (Exists.intro [] (And.intro rfl (And.intro rfl (And.intro trivial trivial))))))))
      · refine Or.inl ?_
        have hy := someE hF
        subst hy
        refine And.intro rfl (Exists.intro [] (Exists.intro [] (Exists.intro [] (Exists.intro [] (Exists.intro [] (And.intro rfl (And.intro rfl (And.intro trivial trivial))))))))
  · refine Or.inl ?_
    obtain ⟨r1, hr1, hF⟩ := bindE hF
    refine Or.inl (And.intro f98_in (callV0 (callI C98 a r1 [] false C98_holds hr1 rfl rfl ?_)))
    refine (And.intro rfl (And.intro (fun h => nomatch h) (And.intro rfl (And.intro rfl (And.intro trivial (And.intro trivial ?_))))))
    obtain ⟨r2, hr2, hF⟩ := bindE hF
    refine Or.inl (And.intro f98_in (callV0 (callI C98 b r2 [] false C98_holds hr2 rfl rfl ?_)))
    refine (And.intro rfl (And.intro (fun h => nomatch h) (And.intro rfl (And.intro rfl (And.intro trivial (And.intro trivial ?_))))))
    refine Or.inl ?_
    refine Or.inl ?_
    refine And.intro (by decide) ?_
    refine And.intro (by decide) ?_
    refine Or.inl ?_
    refine Or.inl ?_
    refine condI hF (fun hF => ?_) (fun hF => ?_)
    · refine Or.inl ?_
      obtain ⟨r3, hr3, hF⟩ := bindE hF
      refine Or.inl (And.intro f99_in (callV0 (callI C99 ((1 : Int), (0 : Int), (!((decide (a < (0 : Int))) == (decide (b < (0 : Int)))))) r3 [] false C99_holds hr3 rfl rfl ?_)))
      refine (And.intro rfl (And.intro rfl (And.intro rfl (And.intro (fun h => nomatch h) (And.intro rfl (And.intro rfl (And.intro trivial (And.intro trivial ?_))))))))
      have hy := someE hF
      subst hy
      refine And.intro rfl (Exists.intro [] (Exists.intro [] (Exists.intro [] (Exists.intro [] (Exists.intro [] (And.intro rfl (And.intro rfl (And.intro trivial trivial))))))))
    · refine Or.inl ?_
      obtain ⟨r4, hr4, hF⟩ := bindE hF
      refine Or.inl (And.intro f85_in (callV0 (callI C85 ((Int.fdiv r1 (2 ^ min (Int.toNat (32 : Int)) (IntKind.bits IntKind.u64))), (IntKind.u64.wrap (r1 * 2 ^ min (Int.toNat (32 : Int)) (IntKind.bits IntKind.u64))), r2) r4 [] false C85_holds hr4 rfl rfl ?_)))
      refine (And.intro rfl (And.intro rfl (And.intro rfl (And.intro (fun h => nomatch h) (And.intro rfl (And.intro rfl (And.intro trivial (And.intro trivial ?_))))))))
      refine Or.inl ?_
      obtain ⟨z7, hz7, hF⟩ := bindE hF
      refine Or.inr ⟨[(0, ⟨[(7, .dat .bool (!((decide (a < (0 : Int))) == (decide (b < (0 : Int)))))), (10, .dat (.int .u64) z7.1), (12, .dat (.int .u64) z7.2)], [], 0⟩)], ?_, ?_⟩
      · have hF := hz7
        clear hz7
        unfold f81_j2 at hF
        obtain ⟨z8, hz8, hF⟩ := bindE hF
        refine Or.inr ⟨[(0, ⟨[(7, .dat .bool (!((decide (a < (0 : Int))) == (decide (b < (0 : Int)))))), (10, .dat (.int .u64) r4.1), (12, .dat (.int .u64) (0 : Int)), (62, .dat .bool z8)], [], 0⟩)], ?_, ?_⟩
        · have hF := hz8
          clear hz8
          unfold f81_j3 at hF
          refine condN hF (fun hF => ?_) (fun hF => ?_)
          · refine gdYF ?_
            refine gdYF ?_
            refine gdYF ?_
            refine gdYF ?_
            refine gdYF ?_
            refine condI hF (fun hF => ?_) (fun hF => ?_)
            · refine gdYT ?_
              refine gdYT ?_
              refine gdYF ?_
              refine condT ?_
              refine condF ?_
              have hz := someE hF
              subst hz
              refine Exists.intro [] (Exists.intro [] (Exists.intro [] (Exists.intro [] (Exists.intro [] (And.intro rfl (And.intro rfl (And.intro rfl (And.intro rfl (And.intro rfl (And.intro trivial trivial))))))))))
            · refine gdNT ?_
              refine gdNT ?_
              refine gdYF ?_
              refine condF ?_
              refine condF ?_
              have hz := someE hF
              subst hz
              refine Exists.intro [] (Exists.intro [] (Exists.intro [] (Exists.intro [] (Exists.intro [] (And.intro rfl (And.intro rfl (And.intro rfl (And.intro rfl (And.intro rfl (And.intro trivial trivial))))))))))
          · refine gdNF ?_
            refine gdNF ?_
            refine gdNF ?_
            refine gdNF ?_
            refine gdNF ?_
            refine gdNF ?_
            refine condT ?_
            have hz := someE hF
            subst hz
            refine Exists.intro [] (Exists.intro [] (Exists.intro [] (Exists.intro [] (Exists.intro [] (And.intro rfl (And.intro rfl (And.intro rfl (And.intro rfl (And.intro rfl (And.intro trivial trivial))))))))))
        · refine And.intro ?_ trivial
          refine condI hF (fun hF => ?_) (fun hF => ?_)
          · obtain ⟨r9, hr9, hF⟩ := bindE hF
            refine Or.inr ⟨ext3 add64, [r9.1, r9.2], add64_ok, And.intro (ext3I hr9) ?_⟩
            have hz := someE hF
            subst hz
            refine Exists.intro [] (Exists.intro [] (Exists.intro [] (Exists.intro [] (Exists.intro [] (And.intro rfl (And.intro rfl (And.intro rfl (And.intro rfl (And.intro trivial trivial)))))))))
          · have hz := someE hF
            subst hz
            refine Exists.intro [] (Exists.intro [] (Exists.intro [] (Exists.intro [] (Exists.intro [] (And.intro rfl (And.intro rfl (And.intro rfl (And.intro rfl (And.intro trivial trivial)))))))))
      · refine And.intro ?_ trivial
        refine Or.inl ?_
        obtain ⟨r10, hr10, hF⟩ := bindE hF
        refine Or.inl (And.intro f99_in (callV0 (callI C99 (z7.2, z7.1, (!((decide (a < (0 : Int))) == (decide (b < (0 : Int)))))) r10 [] false C99_holds hr10 rfl rfl ?_)))
        refine (And.intro rfl (And.intro rfl (And.intro rfl (And.intro (fun h => nomatch h) (And.intro rfl (And.intro rfl (And.intro trivial (And.intro trivial ?_))))))))
        have hy := someE hF
        subst hy
        refine And.intro rfl (Exists.intro [] (Exists.intro [] (Exists.intro [] (Exists.intro [] (Exists.intro [] (And.intro rfl (And.intro rfl (And.intro trivial trivial))))))))
theorem C81_holds : C81.Holds Try.prog 81 := holds_of_vc tab_ok mixed (fn := Try.f81) (by kernel_rfl) rfl C81 (fun x y hF => C81_vc x.1 x.2 y hF)
theorem f81_in : ∃ fn, Try.prog.funcs[81]? = some fn ∧ fn.body.isSome = true ∧ (fn.name == "runtime.NumGoroutine") = false := ⟨Try.f81, by kernel_rfl, by kernel_rfl, by kernel_rfl⟩
end Go.Proofs
namespace Go.Proofs
open Go.AM
-- carousel/wide.magnitude
def f83 (a : Int × Int) : Option (Int × Int × Bool) :=
  bif (decide (a.1 < (0 : Int))) then
    bindF (f86 (a.1, a.2)) fun q4_7 =>
    some ((IntKind.u64.wrap q4_7.1), q4_7.2, true)
  else
    some ((IntKind.u64.wrap a.1), a.2, false)
def C83 : Con where
  X := Int × Int
  Y := Int × Int × Bool
  e := 0
  args x := [.dat (.p (.int .i64) (.int .u64)) x]
  hin x := []
  F x := f83 x
  ret y := [.dat (.int .u64) y.1, .dat (.int .u64) y.2.1, .dat .bool y.2.2]
  hout y := []
  nout := 0
theorem C83_vc (a : Int × Int) (y : Int × Int × Bool) (hF : f83 a = some y) : vc Try.prog tab Try.f83.ntmps 0 (match Try.f83.body with | some c => c | none => .skip) (retK tab C83 Try.f83.results.toList y) (C83.shIn a).st := by
  unfold f83 at hF
  refine Or.inl ?_
  refine Or.inl ?_
  refine Or.inl ?_
  refine condI hF (fun hF => ?_) (fun hF => ?_)
  · refine Or.inl ?_
    obtain ⟨q4_7, hq4_7, hF⟩ := bindE hF
    refine Or.inl (And.intro f86_in (callV0 (callI C86 (a.1, a.2) q4_7 [] false C86_holds hq4_7 rfl rfl ?_)))
    refine (And.intro rfl (And.intro rfl (And.intro (fun h => nomatch h) (And.intro rfl (And.intro rfl (And.intro trivial (And.intro trivial ?_)))))))
    refine Or.inl ?_
    refine Or.inl ?_
    refine Exists.intro (.take 0 (.take 1 (.take 2 (.take 3 (.take 4 (.take 5 (.take 6 (.take 7 .done)))))))) (Exists.intro [] (Exists.intro [] (And.intro rfl ?_)))
    have hy := someE hF
    subst hy
    refine And.intro rfl (Exists.intro [] (Exists.intro [] (Exists.intro [] (Exists.intro [] (Exists.intro [] (And.intro rfl (And.intro rfl (And.intro rfl (And.intro rfl (And.intro trivial trivial))))))))))
  · refine Or.inl ?_
    refine Exists.intro (.take 0 (.take 1 (.take 2 (.take 3 (.take 4 (.take 5 (.take 6 (.take 7 .done)))))))) (Exists.intro [] (Exists.intro [] (And.intro rfl ?_)))
    have hy := someE hF
    subst hy
    refine And.intro rfl (Exists.intro [] (Exists.intro [] (Exists.intro [] (Exists.intro [] (Exists.intro [] (And.intro rfl (And.intro rfl (And.intro rfl (And.intro rfl (And.intro trivial trivial))))))))))
theorem C83_holds : C83.Holds Try.prog 83 := holds_of_vc tab_ok mixed (fn := Try.f83) (by kernel_rfl) rfl C83 (fun x y hF => C83_vc x y hF)
theorem f83_in : ∃ fn, Try.prog.funcs[83]? = some fn ∧ fn.body.isSome = true ∧ (fn.name == "runtime.NumGoroutine") = false := ⟨Try.f83, by kernel_rfl, by kernel_rfl, by kernel_rfl⟩
end Go.Proofs
namespace Go.Proofs
open Go.AM
-- carousel/wide.Over
def f55_j3 (r4 : Int) (q6_7 : Int × Int) : Option Bool :=
  bif (decide (q6_7.2 > (IntKind.u64.wrap (r4 - q6_7.2)))) then
    some true
  else
    bif (q6_7.2 == (IntKind.u64.wrap (r4 - q6_7.2))) then
      some ((bitsOf IntKind.u64 (fun p q => p &&& q) q6_7.1 (1 : Int)) == (1 : Int))
    else
      some false
def f55_j2 (r3 : Int × Int × Bool) (r4 : Int) (q6_7 : Int × Int) : Option (Int × Int) :=
  bindF (f55_j3 r4 q6_7) fun z8 =>
  bif z8 then
    bindF (add64 q6_7.1 (1 : Int) (0 : Int)) fun r9 =>
    some ((IntKind.u64.wrap ((IntKind.u64.wrap (Int.tdiv r3.1 r4)) + r9.2)), r9.1)
  else
    some ((IntKind.u64.wrap (Int.tdiv r3.1 r4)), q6_7.1)
def f55 (a : Int × Int) (n : Int) : Option Int :=
  bif (n == (0 : Int)) then
    bindF (f82 (a.1, a.2) ((0 : Int), (0 : Int))) fun r1 =>
    bindF (f81 r1 (0 : Int)) fun r2 =>
    some r2
  else
    bindF (f83 (a.1, a.2)) fun r3 =>
    bindF (f84 n) fun r4 =>
    guardF (r4 ≠ 0) <|
    guardF (r4 ≠ 0) <|
    bindF (f85 (Int.tmod r3.1 r4) r3.2.1 r4) fun q6_7 =>
    bindF (f55_j2 r3 r4 q6_7) fun z7 =>
    bif (!(r3.2.2 == (decide (n < (0 : Int))))) then
      bindF (f86 ((IntKind.i64.wrap (if (9223372036854775807 : Int) < z7.1 then (9223372036854775807 : Int) else z7.1)), z7.2)) fun r10 =>
      bindF (f53 (r10.1, r10.2)) fun r11 =>
      some r11
    else
      bindF (f53 ((IntKind.i64.wrap (if (9223372036854775807 : Int) < z7.1 then (9223372036854775807 : Int) else z7.1)), z7.2)) fun r12 =>
      some r12
def C55 : Con where
  X := (Int × Int) × Int
  Y := Int
  e := 0
  args x := [.dat (.p (.int .i64) (.int .u64)) x.1, .dat (.int .i64) x.2]
  hin x := []
  F x := f55 x.1 x.2
  ret y := [.dat (.int .i64) y]
  hout y := []
  nout := 0
theorem C55_vc (a : Int × Int) (n : Int) (y : Int) (hF : f55 a n = some y) : vc Try.prog tab Try.f55.ntmps 0 (match Try.f55.body with | some c => c | none => .skip) (retK tab C55 Try.f55.results.toList y) (C55.shIn (a, n)).st := by
  unfold f55 at hF
  refine Or.inl ?_
  refine Or.inl ?_
  refine Or.inl ?_
  refine condI hF (fun hF => ?_) (fun hF => ?_)
  · refine Or.inl ?_
    obtain ⟨r1, hr1, hF⟩ := bindE hF
    refine Or.inl (And.intro f82_in (callV0 (callI C82 ((a.1, a.2), ((0 : Int), (0 : Int))) r1 [] false C82_holds hr1 rfl rfl ?_)))
    refine (And.intro rfl (And.intro rfl (And.intro rfl (And.intro rfl (And.intro (fun h => nomatch h) (And.intro rfl (And.intro rfl (And.intro trivial (And.intro trivial ?_)))))))))
    obtain ⟨r2, hr2, hF⟩ := bindE hF
    refine Or.inl (And.intro f81_in (callV0 (callI C81 (r1, (0 : Int)) r2 [] false C81_holds hr2 rfl rfl ?_)))
    refine (And.intro rfl (And.intro rfl (And.intro (fun h => nomatch h) (And.intro rfl (And.intro rfl (And.intro trivial (And.intro trivial ?_)))))))
    have hy := someE hF
    subst hy
    refine And.intro rfl (Exists.intro [] (Exists.intro [] (Exists.intro [] (Exists.intro [] (Exists.intro [] (And.intro rfl (And.intro rfl (And.intro trivial trivial))))))))
  · refine Or.inl ?_
    obtain ⟨r3, hr3, hF⟩ := bindE hF
    refine Or.inl (And.intro f83_in (callV0 (callI C83 (a.1, a.2) r3 [] false C83_holds hr3 rfl rfl ?_)))
    refine (And.intro rfl (And.intro rfl (And.intro (fun h => nomatch h) (And.intro rfl (And.intro rfl (And.intro trivial (And.intro trivial ?_)))))))
    refine Or.inl ?_
    obtain ⟨r4, hr4, hF⟩ := bindE hF
    refine Or.inl (And.intro f84_in (callV0 (callI C84 n r4 [] false C84_holds hr4 rfl rfl ?_)))
    refine (And.intro rfl (And.intro (fun h => nomatch h) (And.intro rfl (And.intro rfl (And.intro trivial (And.intro trivial ?_))))))
    refine Or.inl ?_
    refine Or.inl ?_
    refine Exists.intro (.take 0 (.take 1 (.take 2 (.take 3 (.take 4 (.take 5 (.take 6 (.take 7 .done)))))))) (Exists.intro [] (Exists.intro [] (And.intro rfl ?_)))
    refine guardI hF (fun hF => ?_)
    refine guardI hF (fun hF => ?_)
    refine Or.inl ?_
    obtain ⟨q6_7, hq6_7, hF⟩ := bindE hF
    refine Or.inl (And.intro f85_in (callV0 (callI C85 ((Int.tmod r3.1 r4), r3.2.1, r4) q6_7 [] false C85_holds hq6_7 rfl rfl ?_)))
    refine (And.intro rfl (And.intro rfl (And.intro rfl (And.intro (fun h => nomatch h) (And.intro rfl (And.intro rfl (And.intro trivial (And.intro trivial ?_))))))))
    obtain ⟨z7, hz7, hF⟩ := bindE hF
    refine Or.inr ⟨[(0, ⟨[(7, .dat .bool (!(r3.2.2 == (decide (n < (0 : Int)))))), (9, .dat (.int .u64) z7.1), (11, .dat (.int .u64) z7.2)], [], 0⟩)], ?_, ?_⟩
    · have hF := hz7
      clear hz7
      unfold f55_j2 at hF
      obtain ⟨z8, hz8, hF⟩ := bindE hF
      refine Or.inr ⟨[(0, ⟨[(7, .dat .bool (!(r3.2.2 == (decide (n < (0 : Int)))))), (9, .dat (.int .u64) (IntKind.u64.wrap (Int.tdiv r3.1 r4))), (11, .dat (.int .u64) q6_7.1), (61, .dat .bool z8)], [], 0⟩)], ?_, ?_⟩
      · have hF := hz8
        clear hz8
        unfold f55_j3 at hF
        refine condN hF (fun hF => ?_) (fun hF => ?_)
        · refine gdYF ?_
          refine gdYF ?_
          refine gdYF ?_
          refine gdYF ?_
          refine gdYF ?_
          refine condI hF (fun hF => ?_) (fun hF => ?_)
          · refine gdYT ?_
            refine gdYT ?_
            refine gdYF ?_
            refine condT ?_
            refine condF ?_
            have hz := someE hF
            subst hz
            refine Exists.intro [] (Exists.intro [] (Exists.intro [] (Exists.intro [] (Exists.intro [] (And.intro rfl (And.intro rfl (And.intro rfl (And.intro rfl (And.intro rfl (And.intro trivial trivial))))))))))
          · refine gdNT ?_
            refine gdNT ?_
            refine gdYF ?_
            refine condF ?_
            refine condF ?_
            have hz := someE hF
            subst hz
            refine Exists.intro [] (Exists.intro [] (Exists.intro [] (Exists.intro [] (Exists.intro [] (And.intro rfl (And.intro rfl (And.intro rfl (And.intro rfl (And.intro rfl (And.intro trivial trivial))))))))))
        · refine gdNF ?_
          refine gdNF ?_
          refine gdNF ?_
          refine gdNF ?_
          refine gdNF ?_
          refine gdNF ?_
          refine condT ?_
          have hz := someE hF
          subst hz
          refine Exists.intro [] (Exists.intro [] (Exists.intro [] (Exists.intro [] (Exists.intro [] (And.intro rfl (And.intro rfl (And.intro rfl (And.intro rfl (And.intro rfl (And.intro trivial trivial))))))))))
      · refine And.intro ?_ trivial
        refine condI hF (fun hF => ?_) (fun hF => ?_)
        · refine Or.inl ?_
          refine Or.inl ?_
          obtain ⟨r9, hr9, hF⟩ := bindE hF
          refine Or.inr ⟨ext3 add64, [r9.1, r9.2], add64_ok, And.intro (ext3I hr9) ?_⟩
          have hz := someE hF
          subst hz
          refine Exists.intro [] (Exists.intro [] (Exists.intro [] (Exists.intro [] (Exists.intro [] (And.intro rfl (And.intro rfl (And.intro rfl (And.intro rfl (And.intro trivial trivial)))))))))
        · have hz := someE hF
          subst hz
          refine Exists.intro [] (Exists.intro [] (Exists.intro [] (Exists.intro [] (Exists.intro [] (And.intro rfl (And.intro rfl (And.intro rfl (And.intro rfl (And.intro trivial trivial)))))))))
    · refine And.intro ?_ trivial
      refine Or.inl ?_
      refine Or.inl ?_
      refine Or.inl ?_
      refine Or.inl ?_
      refine condI hF (fun hF => ?_) (fun hF => ?_)
      · refine Or.inl ?_
        obtain ⟨r10, hr10, hF⟩ := bindE hF
        refine Or.inl (And.intro f86_in (callV0 (callI C86 ((IntKind.i64.wrap (if (9223372036854775807 : Int) < z7.1 then (9223372036854775807 : Int) else z7.1)), z7.2) r10 [] false C86_holds hr10 rfl rfl ?_)))
        refine (And.intro rfl (And.intro rfl (And.intro (fun h => nomatch h) (And.intro rfl (And.intro rfl (And.intro trivial (And.intro trivial ?_)))))))
        obtain ⟨r11, hr11, hF⟩ := bindE hF
        refine Or.inl (And.intro f53_in (callV0 (callI C53 (r10.1, r10.2) r11 [] false C53_holds hr11 rfl rfl ?_)))
        refine (And.intro rfl (And.intro rfl (And.intro (fun h => nomatch h) (And.intro rfl (And.intro rfl (And.intro trivial (And.intro trivial ?_)))))))
        have hy := someE hF
        subst hy
        refine And.intro rfl (Exists.intro [] (Exists.intro [] (Exists.intro [] (Exists.intro [] (Exists.intro [] (And.intro rfl (And.intro rfl (And.intro trivial trivial))))))))
      · refine Or.inl ?_
        obtain ⟨r12, hr12, hF⟩ := bindE hF
        refine Or.inl (And.intro f53_in (callV0 (callI C53 ((IntKind.i64.wrap (if (9223372036854775807 : Int) < z7.1 then (9223372036854775807 : Int) else z7.1)), z7.2) r12 [] false C53_holds hr12 rfl rfl ?_)))
        refine (And.intro rfl (And.intro rfl (And.intro (fun h => nomatch h) (And.intro rfl (And.intro rfl (And.intro trivial (And.intro trivial ?_)))))))
        have hy := someE hF
        subst hy
        refine And.intro rfl (Exists.intro [] (Exists.intro [] (Exists.intro [] (Exists.intro [] (Exists.intro [] (And.intro rfl (And.intro rfl (And.intro trivial trivial))))))))
theorem C55_holds : C55.Holds Try.prog 55 := holds_of_vc tab_ok mixed (fn := Try.f55) (by kernel_rfl) rfl C55 (fun x y hF => C55_vc x.1 x.2 y hF)
theorem f55_in : ∃ fn, Try.prog.funcs[55]? = some fn ∧ fn.body.isSome = true ∧ (fn.name == "runtime.NumGoroutine") = false := ⟨Try.f55, by kernel_rfl, by kernel_rfl, by kernel_rfl⟩
end Go.Proofs
namespace Go.Proofs
open Go.AM
-- carousel/matm.Mean
def f25 (a : (List Int) × (List Int)) : Option (Int × Int) :=
  bindF (f42 (a.1, a.2)) fun q3_8 =>
  bif (!q3_8) then
    some ((0 : Int), (1 : Int))
  else
    bindF (f54 a.2) fun q3_2 =>
    bindF (f55 (q3_2.1, q3_2.2) (List.length a.2 : Int)) fun q3_6 =>
    some (q3_6, (0 : Int))
def C25 : Con where
  X := (List Int) × (List Int)
  Y := Int × Int
  e := 0
  args x := [.dat (.p (.sl (.int .i64)) (.sl (.int .i64))) x]
  hin x := []
  F x := f25 x
  ret y := [.dat (.int .i64) y.1, .dat (.int .i64) y.2]
  hout y := []
  nout := 0
theorem C25_vc (a : (List Int) × (List Int)) (y : Int × Int) (hF : f25 a = some y) : vc Try.prog tab Try.f25.ntmps 0 (match Try.f25.body with | some c => c | none => .skip) (retK tab C25 Try.f25.results.toList y) (C25.shIn a).st := by
  unfold f25 at hF
  refine Or.inl ?_
  refine Or.inl ?_
  refine Or.inl ?_
  obtain ⟨q3_8, hq3_8, hF⟩ := bindE hF
  refine Or.inl (And.intro f42_in (callV0 (callI C42 (a.1, a.2) q3_8 [] false C42_holds hq3_8 rfl rfl ?_)))
  refine (And.intro rfl (And.intro rfl (And.intro (fun h => nomatch h) (And.intro rfl (And.intro rfl (And.intro trivial (And.intro trivial ?_)))))))
  refine condI hF (fun hF => ?_) (fun hF => ?_)
  · refine Or.inl ?_
    have hy := someE hF
    subst hy
    refine And.intro rfl (Exists.intro [] (Exists.intro [] (Exists.intro [] (Exists.intro [] (Exists.intro [] (And.intro rfl (And.intro rfl (And.intro rfl (And.intro trivial trivial)))))))))
  · refine Or.inl ?_
    refine Exists.intro (.take 0 (.take 1 (.take 3 (.take 4 (.take 5 (.alt 2 (.alt 6 (.take 7 (.take 8 .done)) .done) .done)))))) (Exists.intro [] (Exists.intro [] (And.intro rfl ?_)))
    refine And.intro trivial ?_
    obtain ⟨q3_2, hq3_2, hF⟩ := bindE hF
    refine Or.inl (And.intro f54_in (callV0 (callI C54 a.2 q3_2 [] false C54_holds hq3_2 rfl rfl ?_)))
    refine (And.intro rfl (And.intro (fun h => nomatch h) (And.intro rfl (And.intro rfl (And.intro trivial (And.intro trivial ?_))))))
    refine And.intro trivial ?_
    obtain ⟨q3_6, hq3_6, hF⟩ := bindE hF
    refine Or.inl (And.intro f55_in (callV0 (callI C55 ((q3_2.1, q3_2.2), (List.length a.2 : Int)) q3_6 [] false C55_holds hq3_6 rfl rfl ?_)))
    refine (And.intro rfl (And.intro rfl (And.intro rfl (And.intro (fun h => nomatch h) (And.intro rfl (And.intro rfl (And.intro trivial (And.intro trivial ?_))))))))
    have hy := someE hF
    subst hy
    refine And.intro rfl (Exists.intro [] (Exists.intro [] (Exists.intro [] (Exists.intro [] (Exists.intro [] (And.intro rfl (And.intro rfl (And.intro rfl (And.intro trivial trivial)))))))))
theorem C25_holds : C25.Holds Try.prog 25 := holds_of_vc tab_ok mixed (fn := Try.f25) (by kernel_rfl) rfl C25 (fun x y hF => C25_vc x y hF)
theorem f25_in : ∃ fn, Try.prog.funcs[25]? = some fn ∧ fn.body.isSome = true ∧ (fn.name == "runtime.NumGoroutine") = false := ⟨Try.f25, by kernel_rfl, by kernel_rfl, by kernel_rfl⟩
end Go.Proofs
namespace Go.Proofs
open Go.AM
-- carousel/tape.New
def f27 : Option Unit :=
  some ()
def C27 : Con where
  X := Unit
  Y := Unit
  e := 0
  args x := []
  hin x := []
  F x := f27
  ret y := [.raw false [(.ptr 0 0)]]
  hout y := [(0, .cells [(.osl 1)]), (1, .arr 51 (.p (.int .i64) (.p (.int .i64) (.p (.int .i64) (.p (.int .i64) (.p (.sl (.int .i64)) (.sl (.int .i64))))))) ([]))]
  nout := 2
theorem C27_vc (y : Unit) (hF : f27 = some y) : vc Try.prog tab Try.f27.ntmps 0 (match Try.f27.body with | some c => c | none => .skip) (retK tab C27 Try.f27.results.toList y) (C27.shIn ()).st := by
  unfold f27 at hF
  refine Or.inl ?_
  refine Or.inl ?_
  have hy := someE hF
  subst hy
  refine And.intro rfl (Exists.intro [] (Exists.intro [] (Exists.intro [] (Exists.intro [] (Exists.intro [(0, some 0), (1, none)] (And.intro rfl (And.intro (And.intro rfl trivial) (And.intro rfl (And.intro rfl trivial)))))))))
theorem C27_holds : C27.Holds Try.prog 27 := holds_of_vc tab_ok mixed (fn := Try.f27) (by kernel_rfl) rfl C27 (fun x y hF => C27_vc y hF)
theorem f27_in : ∃ fn, Try.prog.funcs[27]? = some fn ∧ fn.body.isSome = true ∧ (fn.name == "runtime.NumGoroutine") = false := ⟨Try.f27, by kernel_rfl, by kernel_rfl, by kernel_rfl⟩
end Go.Proofs
namespace Go.Proofs
open Go.AM
-- carousel/carousellaw10.row
def f30 (v : List Int) : Option ((List Int) × (List Int)) :=
  some (v, [(List.length v : Int)])
def C30 : Con where
  X := List Int
  Y := (List Int) × (List Int)
  e := 0
  args x := [.dat (.sl (.int .i64)) x]
  hin x := []
  F x := f30 x
  ret y := [.raw true [(.osl 0), (.d (.sl (.int .i64)) y.1)]]
  hout y := [(0, .arr 3 (.int .i64) y.2)]
  nout := 1
theorem C30_vc (v : List Int) (y : (List Int) × (List Int)) (hF : f30 v = some y) : vc Try.prog tab Try.f30.ntmps 0 (match Try.f30.body with | some c => c | none => .skip) (retK tab C30 Try.f30.results.toList y) (C30.shIn v).st := by
  unfold f30 at hF
  refine Or.inl ?_
  refine Or.inl ?_
  refine Or.inl ?_
  refine Or.inl ?_
  have hy := someE hF
  subst hy
  refine And.intro rfl (Exists.intro [] (Exists.intro [] (Exists.intro [] (Exists.intro [] (Exists.intro [(0, some 1)] (And.intro rfl (And.intro (And.intro rfl trivial) (And.intro rfl trivial))))))))
theorem C30_holds : C30.Holds Try.prog 30 := holds_of_vc tab_ok mixed (fn := Try.f30) (by kernel_rfl) rfl C30 (fun x y hF => C30_vc x y hF)
theorem f30_in : ∃ fn, Try.prog.funcs[30]? = some fn ∧ fn.body.isSome = true ∧ (fn.name == "runtime.NumGoroutine") = false := ⟨Try.f30, by kernel_rfl, by kernel_rfl, by kernel_rfl⟩
end Go.Proofs
namespace Go.Proofs
open Go.AM
-- slices.Clone[[]carousel/api.Fix,carousel/api.Fix]
def f87 (s : List Int) : Option (List Int) :=
  nilF s
    (some ([]))
    (guardF ((List.length ([] : List Int) + List.length s) * 8 ≤ 140737488355328) <|
     some (([] : List Int) ++ s))
def C87 : Con where
  X := List Int
  Y := List Int
  e := 0
  args x := [.dat (.sl (.int .i64)) x]
  hin x := []
  F x := f87 x
  ret y := [.raw false [(.osl 0)]]
  hout y := [(0, .arr 24 (.int .i64) y)]
  nout := 1
theorem C87_vc (s : List Int) (y : List Int) (hF : f87 s = some y) : vc Try.prog tab Try.f87.ntmps 0 (match Try.f87.body with | some c => c | none => .skip) (retK tab C87 Try.f87.results.toList y) (C87.shIn s).st := by
  unfold f87 at hF
  refine Or.inl ?_
  refine Or.inl ?_
  refine Or.inl ?_
  refine nilI hF (fun hF => ?_) (fun hF => ?_)
  · refine condT ?_
    refine Or.inl ?_
    have hy := someE hF
    subst hy
    refine And.intro rfl (Exists.intro [] (Exists.intro [] (Exists.intro [] (Exists.intro [] (Exists.intro [(0, none)] (And.intro rfl (And.intro (And.intro rfl trivial) (And.intro rfl trivial))))))))
  · refine condF ?_
    refine Or.inl ?_
    refine Or.inl ?_
    refine Or.inl ?_
    refine guardI hF (fun hF => ?_)
    have hy := someE hF
    subst hy
    refine And.intro rfl (Exists.intro [] (Exists.intro [] (Exists.intro [] (Exists.intro [] (Exists.intro [(0, some 1)] (And.intro rfl (And.intro (And.intro rfl trivial) (And.intro rfl trivial))))))))
theorem C87_holds : C87.Holds Try.prog 87 := holds_of_vc tab_ok mixed (fn := Try.f87) (by kernel_rfl) rfl C87 (fun x y hF => C87_vc x y hF)
theorem f87_in : ∃ fn, Try.prog.funcs[87]? = some fn ∧ fn.body.isSome = true ∧ (fn.name == "runtime.NumGoroutine") = false := ⟨Try.f87, by kernel_rfl, by kernel_rfl, by kernel_rfl⟩
end Go.Proofs
namespace Go.Proofs
open Go.AM
-- carousel/tens.Copy
def f57 (t : (List Int) × (List Int)) : Option ((List Int) × (List Int)) :=
  bindF (f75 t.1) fun q1_2 =>
  bindF (f87 t.2) fun q1_5 =>
  some (q1_2, q1_5)
def C57 : Con where
  X := (List Int) × (List Int)
  Y := (List Int) × (List Int)
  e := 0
  args x := [.dat (.p (.sl (.int .i64)) (.sl (.int .i64))) x]
  hin x := []
  F x := f57 x
  ret y := [.raw true [(.osl 0), (.osl 1)]]
  hout y := [(0, .arr 3 (.int .i64) y.1), (1, .arr 24 (.int .i64) y.2)]
  nout := 2
theorem C57_vc (t : (List Int) × (List Int)) (y : (List Int) × (List Int)) (hF : f57 t = some y) : vc Try.prog tab Try.f57.ntmps 0 (match Try.f57.body with | some c => c | none => .skip) (retK tab C57 Try.f57.results.toList y) (C57.shIn t).st := by
  unfold f57 at hF
  refine Or.inl ?_
  refine Or.inl ?_
  refine Exists.intro (.take 0 (.take 1 (.take 3 (.take 4 (.alt 2 (.alt 5 (.take 6 (.alt 7 .done .done)) .done) .done))))) (Exists.intro [] (Exists.intro [] (And.intro rfl ?_)))
  refine And.intro trivial ?_
  obtain ⟨q1_2, hq1_2, hF⟩ := bindE hF
  refine Or.inl (And.intro f75_in (callV0 (callI C75 t.1 q1_2 [] false C75_holds hq1_2 rfl rfl ?_)))
  refine (And.intro rfl (And.intro (fun h => nomatch h) (And.intro rfl (And.intro rfl (And.intro trivial (And.intro trivial ?_))))))
  refine And.intro trivial ?_
  obtain ⟨q1_5, hq1_5, hF⟩ := bindE hF
  refine Or.inl (And.intro f87_in (callV0 (callI C87 t.2 q1_5 [] false C87_holds hq1_5 rfl rfl ?_)))
  refine (And.intro rfl (And.intro (fun h => nomatch h) (And.intro rfl (And.intro rfl (And.intro trivial (And.intro trivial ?_))))))
  refine And.intro trivial ?_
  refine Or.inl ?_
  have hy := someE hF
  subst hy
  refine And.intro rfl (Exists.intro [] (Exists.intro [] (Exists.intro [] (Exists.intro [] (Exists.intro [(0, some 2), (1, some 3)] (And.intro rfl (And.intro (And.intro rfl trivial) (And.intro rfl (And.intro rfl trivial)))))))))
theorem C57_holds : C57.Holds Try.prog 57 := holds_of_vc tab_ok mixed (fn := Try.f57) (by kernel_rfl) rfl C57 (fun x y hF => C57_vc x y hF)
theorem f57_in : ∃ fn, Try.prog.funcs[57]? = some fn ∧ fn.body.isSome = true ∧ (fn.name == "runtime.NumGoroutine") = false := ⟨Try.f57, by kernel_rfl, by kernel_rfl, by kernel_rfl⟩
end Go.Proofs
namespace Go.Proofs
open Go.AM
-- (*carousel/tape.Tape).add
def f56 (t_l : List (Int × Int × Int × Int × (List Int) × (List Int))) (n : Int × Int × Int × Int × (List Int) × (List Int)) : Option (Int × (List (Int × Int × Int × Int × (List Int) × (List Int)))) :=
  guardF ((List.length t_l + List.length ([(n.1, n.2.1, n.2.2.1, n.2.2.2.1, n.2.2.2.2.1, n.2.2.2.2.2)])) * 80 ≤ 140737488355328) <|
  some ((IntKind.i64.wrap ((List.length (t_l ++ ([(n.1, n.2.1, n.2.2.1, n.2.2.2.1, n.2.2.2.2.1, n.2.2.2.2.2)])) : Int) - (1 : Int))), (t_l ++ ([(n.1, n.2.1, n.2.2.1, n.2.2.2.1, n.2.2.2.2.1, n.2.2.2.2.2)])))
def C56 : Con where
  X := (List (Int × Int × Int × Int × (List Int) × (List Int))) × (Int × Int × Int × Int × (List Int) × (List Int))
  Y := Int × (List (Int × Int × Int × Int × (List Int) × (List Int)))
  e := 2
  args x := [.raw false [(.ptr 0 0)], .dat (.p (.int .i64) (.p (.int .i64) (.p (.int .i64) (.p (.int .i64) (.p (.sl (.int .i64)) (.sl (.int .i64))))))) x.2]
  hin x := [(0, .cells [(.osl 1)]), (1, .arr 51 (.p (.int .i64) (.p (.int .i64) (.p (.int .i64) (.p (.int .i64) (.p (.sl (.int .i64)) (.sl (.int .i64))))))) x.1)]
  F x := f56 x.1 x.2
  ret y := [.dat (.int .i64) y.1, .dat (.int .i64) (0 : Int)]
  hout y := [(0, .cells [(.osl 2)]), (2, .arr 51 (.p (.int .i64) (.p (.int .i64) (.p (.int .i64) (.p (.int .i64) (.p (.sl (.int .i64)) (.sl (.int .i64))))))) y.2)]
  nout := 3
theorem C56_vc (t_l : List (Int × Int × Int × Int × (List Int) × (List Int))) (n : Int × Int × Int × Int × (List Int) × (List Int)) (y : Int × (List (Int × Int × Int × Int × (List Int) × (List Int)))) (hF : f56 t_l n = some y) : vc Try.prog tab Try.f56.ntmps 2 (match Try.f56.body with | some c => c | none => .skip) (retK tab C56 Try.f56.results.toList y) (C56.shIn (t_l, n)).st := by
  unfold f56 at hF
  refine Or.inl ?_
  refine Or.inl ?_
  refine Exists.intro (.take 0 (.take 1 (.take 2 (.take 3 (.take 4 (.take 5 (.alt 6 (.alt 7 (.take 8 (.take 9 (.alt 10 .done .done))) .done) .done))))))) (Exists.intro [(10, [0])] (Exists.intro [] (And.intro rfl ?_)))
  refine And.intro trivial ?_
  refine Or.inl ?_
  refine And.intro trivial ?_
  refine Or.inl ?_
  refine guardI hF (fun hF => ?_)
  refine And.intro trivial ?_
  refine Or.inl ?_
  refine Or.inl ?_
  have hy := someE hF
  subst hy
  refine And.intro rfl (Exists.intro [] (Exists.intro [] (Exists.intro [] (Exists.intro [] (Exists.intro [(0, some 0), (2, some 4)] (And.intro rfl (And.intro rfl (And.intro rfl (And.intro trivial (And.intro rfl (And.intro rfl trivial)))))))))))
theorem C56_holds : C56.Holds Try.prog 56 := holds_of_vc tab_ok mixed (fn := Try.f56) (by kernel_rfl) rfl C56 (fun x y hF => C56_vc x.1 x.2 y hF)
theorem f56_in : ∃ fn, Try.prog.funcs[56]? = some fn ∧ fn.body.isSome = true ∧ (fn.name == "runtime.NumGoroutine") = false := ⟨Try.f56, by kernel_rfl, by kernel_rfl, by kernel_rfl⟩
end Go.Proofs
namespace Go.Proofs
open Go.AM
-- (*carousel/tape.Tape).Leaf
def f28 (t_l : List (Int × Int × Int × Int × (List Int) × (List Int))) (x_ : (List Int) × (List Int)) : Option (Int × Int × (List (Int × Int × Int × Int × (List Int) × (List Int)))) :=
  bif (decide ((List.length t_l : Int) ≥ (512 : Int))) then
    some ((0 : Int), (2 : Int), t_l)
  else
    bindF (f42 (x_.1, x_.2)) fun r1 =>
    bif (!r1) then
      some ((0 : Int), (1 : Int), t_l)
    else
      bindF (f57 (x_.1, x_.2)) fun r2 =>
      bindF (f56 t_l ((1 : Int), (-1 : Int), (-1 : Int), (0 : Int), r2.1, r2.2)) fun r3 =>
      some (r3.1, (0 : Int), r3.2)
def C28 : Con where
  X := (List (Int × Int × Int × Int × (List Int) × (List Int))) × ((List Int) × (List Int))
  Y := Int × Int × (List (Int × Int × Int × Int × (List Int) × (List Int)))
  e := 2
  args x := [.raw false [(.ptr 0 0)], .dat (.p (.sl (.int .i64)) (.sl (.int .i64))) x.2]
  hin x := [(0, .cells [(.osl 1)]), (1, .arr 51 (.p (.int .i64) (.p (.int .i64) (.p (.int .i64) (.p (.int .i64) (.p (.sl (.int .i64)) (.sl (.int .i64))))))) x.1)]
  F x := f28 x.1 x.2
  ret y := [.dat (.int .i64) y.1, .dat (.int .i64) y.2.1]
  hout y := [(0, .cells [(.osl 2)]), (2, .arr 51 (.p (.int .i64) (.p (.int .i64) (.p (.int .i64) (.p (.int .i64) (.p (.sl (.int .i64)) (.sl (.int .i64))))))) y.2.2)]
  nout := 3
theorem C28_vc (t_l : List (Int × Int × Int × Int × (List Int) × (List Int))) (x_ : (List Int) × (List Int)) (y : Int × Int × (List (Int × Int × Int × Int × (List Int) × (List Int)))) (hF : f28 t_l x_ = some y) : vc Try.prog tab Try.f28.ntmps 2 (match Try.f28.body with | some c => c | none => .skip) (retK tab C28 Try.f28.results.toList y) (C28.shIn (t_l, x_)).st := by
  unfold f28 at hF
  refine Or.inl ?_
  refine Or.inl ?_
  refine Or.inl ?_
  refine condI hF (fun hF => ?_) (fun hF => ?_)
  · refine Or.inl ?_
    have hy := someE hF
    subst hy
    refine And.intro rfl (Exists.intro [] (Exists.intro [] (Exists.intro [] (Exists.intro [] (Exists.intro [(0, some 0), (2, some 1)] (And.intro rfl (And.intro rfl (And.intro rfl (And.intro trivial (And.intro rfl (And.intro rfl trivial)))))))))))
  · refine Or.inl ?_
    obtain ⟨r1, hr1, hF⟩ := bindE hF
    refine Or.inl (And.intro f42_in (callV0 (callI C42 (x_.1, x_.2) r1 [] false C42_holds hr1 rfl rfl ?_)))
    refine (And.intro rfl (And.intro rfl (And.intro (fun h => nomatch h) (And.intro rfl (And.intro rfl (And.intro trivial (And.intro trivial ?_)))))))
    refine condI hF (fun hF => ?_) (fun hF => ?_)
    · refine Or.inl ?_
      have hy := someE hF
      subst hy
      refine And.intro rfl (Exists.intro [] (Exists.intro [] (Exists.intro [] (Exists.intro [] (Exists.intro [(0, some 0), (2, some 1)] (And.intro rfl (And.intro rfl (And.intro rfl (And.intro trivial (And.intro rfl (And.intro rfl trivial)))))))))))
    · refine Or.inl ?_
      obtain ⟨r2, hr2, hF⟩ := bindE hF
      refine Or.inl (And.intro f57_in (callV0 (callI C57 (x_.1, x_.2) r2 [] false C57_holds hr2 rfl rfl ?_)))
      refine (And.intro rfl (And.intro rfl (And.intro (fun h => nomatch h) (And.intro rfl (And.intro rfl (And.intro trivial (And.intro trivial ?_)))))))
      obtain ⟨r3, hr3, hF⟩ := bindE hF
      have hr3 : C56.F (t_l, ((1 : Int), (-1 : Int), (-1 : Int), (0 : Int), r2.1, r2.2)) = some r3 := hr3
      refine Or.inl (And.intro f56_in (callV0 (callI C56 _ r3 [(0, some 0), (1, some 1)] false C56_holds hr3 rfl rfl ?_)))
      refine (And.intro rfl (And.intro rfl (And.intro (fun h => nomatch h) (And.intro rfl (And.intro rfl (And.intro (And.intro rfl trivial) (And.intro (And.intro rfl (And.intro rfl trivial)) ?_)))))))
      have hy := someE hF
      subst hy
      refine And.intro rfl (Exists.intro [] (Exists.intro [] (Exists.intro [] (Exists.intro [] (Exists.intro [(0, some 0), (2, some 7)] (And.intro rfl (And.intro rfl (And.intro rfl (And.intro trivial (And.intro rfl (And.intro rfl trivial)))))))))))
theorem C28_holds : C28.Holds Try.prog 28 := holds_of_vc tab_ok mixed (fn := Try.f28) (by kernel_rfl) rfl C28 (fun x y hF => C28_vc x.1 x.2 y hF)
theorem f28_in : ∃ fn, Try.prog.funcs[28]? = some fn ∧ fn.body.isSome = true ∧ (fn.name == "runtime.NumGoroutine") = false := ⟨Try.f28, by kernel_rfl, by kernel_rfl, by kernel_rfl⟩
end Go.Proofs
namespace Go.Proofs
open Go.AM
-- (*carousel/tape.Tape).has
def f58 (t_l : List (Int × Int × Int × Int × (List Int) × (List Int))) (n : Int) : Option (Bool × (List (Int × Int × Int × Int × (List Int) × (List Int)))) :=
  bif (decide (n ≥ (0 : Int))) then
    some ((decide (n < (List.length t_l : Int))), t_l)
  else
    some (false, t_l)
def C58 : Con where
  X := (List (Int × Int × Int × Int × (List Int) × (List Int))) × Int
  Y := Bool × (List (Int × Int × Int × Int × (List Int) × (List Int)))
  e := 2
  args x := [.raw false [(.ptr 0 0)], .dat (.int .i64) x.2]
  hin x := [(0, .cells [(.osl 1)]), (1, .arr 51 (.p (.int .i64) (.p (.int .i64) (.p (.int .i64) (.p (.int .i64) (.p (.sl (.int .i64)) (.sl (.int .i64))))))) x.1)]
  F x := f58 x.1 x.2
  ret y := [.dat .bool y.1]
  hout y := [(0, .cells [(.osl 1)]), (1, .arr 51 (.p (.int .i64) (.p (.int .i64) (.p (.int .i64) (.p (.int .i64) (.p (.sl (.int .i64)) (.sl (.int .i64))))))) y.2)]
  nout := 2
theorem C58_vc (t_l : List (Int × Int × Int × Int × (List Int) × (List Int))) (n : Int) (y : Bool × (List (Int × Int × Int × Int × (List Int) × (List Int)))) (hF : f58 t_l n = some y) : vc Try.prog tab Try.f58.ntmps 2 (match Try.f58.body with | some c => c | none => .skip) (retK tab C58 Try.f58.results.toList y) (C58.shIn (t_l, n)).st := by
  unfold f58 at hF
  refine Or.inl ?_
  refine Or.inl ?_
  refine condI hF (fun hF => ?_) (fun hF => ?_)
  · refine gdYT ?_
    refine gdYT ?_
    refine gdYT ?_
    refine gdYT ?_
    refine gdYT ?_
    refine gdYT ?_
    refine condT ?_
    have hy := someE hF
    subst hy
    refine And.intro rfl (Exists.intro [] (Exists.intro [] (Exists.intro [] (Exists.intro [] (Exists.intro [(0, some 0), (1, some 1)] (And.intro rfl (And.intro rfl (And.intro trivial (And.intro rfl (And.intro rfl trivial))))))))))
  · refine gdNT ?_
    refine gdNT ?_
    refine gdNT ?_
    refine gdNT ?_
    refine gdNT ?_
    refine gdNT ?_
    refine condF ?_
    have hy := someE hF
    subst hy
    refine And.intro rfl (Exists.intro [] (Exists.intro [] (Exists.intro [] (Exists.intro [] (Exists.intro [(0, some 0), (1, some 1)] (And.intro rfl (And.intro rfl (And.intro trivial (And.intro rfl (And.intro rfl trivial))))))))))
theorem C58_holds : C58.Holds Try.prog 58 := holds_of_vc tab_ok mixed (fn := Try.f58) (by kernel_rfl) rfl C58 (fun x y hF => C58_vc x.1 x.2 y hF)
theorem f58_in : ∃ fn, Try.prog.funcs[58]? = some fn ∧ fn.body.isSome = true ∧ (fn.name == "runtime.NumGoroutine") = false := ⟨Try.f58, by kernel_rfl, by kernel_rfl, by kernel_rfl⟩
end Go.Proofs
namespace Go.Proofs
open Go.AM
-- carousel/tape.two
def f59 (op : Int) : Option Bool :=
  bif (op == (2 : Int)) then
    some true
  else
    bif (op == (3 : Int)) then
      some true
    else
      bif (op == (4 : Int)) then
        some true
      else
        bif (op == (6 : Int)) then
          some true
        else
          some (op == (12 : Int))
def C59 : Con where
  X := Int
  Y := Bool
  e := 0
  args x := [.dat (.int .i64) x]
  hin x := []
  F x := f59 x
  ret y := [.dat .bool y]
  hout y := []
  nout := 0
theorem C59_vc (op : Int) (y : Bool) (hF : f59 op = some y) : vc Try.prog tab Try.f59.ntmps 0 (match Try.f59.body with | some c => c | none => .skip) (retK tab C59 Try.f59.results.toList y) (C59.shIn op).st := by
  unfold f59 at hF
  refine Or.inl ?_
  refine Or.inl ?_
  refine condN hF (fun hF => ?_) (fun hF => ?_)
  · refine gdYF ?_
    refine condF ?_
    refine condN hF (fun hF => ?_) (fun hF => ?_)
    · refine gdYF ?_
      refine condF ?_
      refine condN hF (fun hF => ?_) (fun hF => ?_)
      · refine gdYF ?_
        refine condF ?_
        refine condN hF (fun hF => ?_) (fun hF => ?_)
        · refine gdYF ?_
          refine condF ?_
          have hy := someE hF
          subst hy
          refine And.intro rfl (Exists.intro [] (Exists.intro [] (Exists.intro [] (Exists.intro [] (Exists.intro [] (And.intro rfl (And.intro rfl (And.intro trivial trivial))))))))
        · refine gdNF ?_
          refine condT ?_
          have hy := someE hF
          subst hy
          refine And.intro rfl (Exists.intro [] (Exists.intro [] (Exists.intro [] (Exists.intro [] (Exists.intro [] (And.intro rfl (And.intro rfl (And.intro trivial trivial))))))))
      · refine gdNF ?_
        refine condT ?_
        refine gdNF ?_
        refine gdNF ?_
        refine condT ?_
        have hy := someE hF
        subst hy
        refine And.intro rfl (Exists.intro [] (Exists.intro [] (Exists.intro [] (Exists.intro [] (Exists.intro [] (And.intro rfl (And.intro rfl (And.intro trivial trivial))))))))
    · refine gdNF ?_
      refine condT ?_
      refine gdNF ?_
      refine gdNF ?_
      refine condT ?_
      refine gdNF ?_
      refine gdNF ?_
      refine condT ?_
      have hy := someE hF
      subst hy
      refine And.intro rfl (Exists.intro [] (Exists.intro [] (Exists.intro [] (Exists.intro [] (Exists.intro [] (And.intro rfl (And.intro rfl (And.intro trivial trivial))))))))
  · refine gdNF ?_
    refine condT ?_
    refine gdNF ?_
    refine gdNF ?_
    refine condT ?_
    refine gdNF ?_
    refine gdNF ?_
    refine condT ?_
    refine gdNF ?_
    refine gdNF ?_
    refine condT ?_
    have hy := someE hF
    subst hy
    refine And.intro rfl (Exists.intro [] (Exists.intro [] (Exists.intro [] (Exists.intro [] (Exists.intro [] (And.intro rfl (And.intro rfl (And.intro trivial trivial))))))))
theorem C59_holds : C59.Holds Try.prog 59 := holds_of_vc tab_ok mixed (fn := Try.f59) (by kernel_rfl) rfl C59 (fun x y hF => C59_vc x y hF)
theorem f59_in : ∃ fn, Try.prog.funcs[59]? = some fn ∧ fn.body.isSome = true ∧ (fn.name == "runtime.NumGoroutine") = false := ⟨Try.f59, by kernel_rfl, by kernel_rfl, by kernel_rfl⟩
end Go.Proofs
namespace Go.Proofs
open Go.AM
-- carousel/tape.counts
def f60 (op : Int) : Option Bool :=
  bif (op == (5 : Int)) then
    some true
  else
    bif (op == (8 : Int)) then
      some true
    else
      bif (op == (11 : Int)) then
        some true
      else
        bif (op == (12 : Int)) then
          some true
        else
          some (op == (13 : Int))
def C60 : Con where
  X := Int
  Y := Bool
  e := 0
  args x := [.dat (.int .i64) x]
  hin x := []
  F x := f60 x
  ret y := [.dat .bool y]
  hout y := []
  nout := 0
theorem C60_vc (op : Int) (y : Bool) (hF : f60 op = some y) : vc Try.prog tab Try.f60.ntmps 0 (match Try.f60.body with | some c => c | none => .skip) (retK tab C60 Try.f60.results.toList y) (C60.shIn op).st := by
  unfold f60 at hF
  refine Or.inl ?_
  refine Or.inl ?_
  refine condN hF (fun hF => ?_) (fun hF => ?_)
  · refine gdYF ?_
    refine condF ?_
    refine condN hF (fun hF => ?_) (fun hF => ?_)
    · refine gdYF ?_
      refine condF ?_
      refine condN hF (fun hF => ?_) (fun hF => ?_)
      · refine gdYF ?_
        refine condF ?_
        refine condN hF (fun hF => ?_) (fun hF => ?_)
        · refine gdYF ?_
          refine condF ?_
          have hy := someE hF
          subst hy
          refine And.intro rfl (Exists.intro [] (Exists.intro [] (Exists.intro [] (Exists.intro [] (Exists.intro [] (And.intro rfl (And.intro rfl (And.intro trivial trivial))))))))
        · refine gdNF ?_
          refine condT ?_
          have hy := someE hF
          subst hy
          refine And.intro rfl (Exists.intro [] (Exists.intro [] (Exists.intro [] (Exists.intro [] (Exists.intro [] (And.intro rfl (And.intro rfl (And.intro trivial trivial))))))))
      · refine gdNF ?_
        refine condT ?_
        refine gdNF ?_
        refine gdNF ?_
        refine condT ?_
        have hy := someE hF
        subst hy
        refine And.intro rfl (Exists.intro [] (Exists.intro [] (Exists.intro [] (Exists.intro [] (Exists.intro [] (And.intro rfl (And.intro rfl (And.intro trivial trivial))))))))
    · refine gdNF ?_
      refine condT ?_
      refine gdNF ?_
      refine gdNF ?_
      refine condT ?_
      refine gdNF ?_
      refine gdNF ?_
      refine condT ?_
      have hy := someE hF
      subst hy
      refine And.intro rfl (Exists.intro [] (Exists.intro [] (Exists.intro [] (Exists.intro [] (Exists.intro [] (And.intro rfl (And.intro rfl (And.intro trivial trivial))))))))
  · refine gdNF ?_
    refine condT ?_
    refine gdNF ?_
    refine gdNF ?_
    refine condT ?_
    refine gdNF ?_
    refine gdNF ?_
    refine condT ?_
    refine gdNF ?_
    refine gdNF ?_
    refine condT ?_
    have hy := someE hF
    subst hy
    refine And.intro rfl (Exists.intro [] (Exists.intro [] (Exists.intro [] (Exists.intro [] (Exists.intro [] (And.intro rfl (And.intro rfl (And.intro trivial trivial))))))))
theorem C60_holds : C60.Holds Try.prog 60 := holds_of_vc tab_ok mixed (fn := Try.f60) (by kernel_rfl) rfl C60 (fun x y hF => C60_vc x y hF)
theorem f60_in : ∃ fn, Try.prog.funcs[60]? = some fn ∧ fn.body.isSome = true ∧ (fn.name == "runtime.NumGoroutine") = false := ⟨Try.f60, by kernel_rfl, by kernel_rfl, by kernel_rfl⟩
end Go.Proofs
namespace Go.Proofs
open Go.AM
-- carousel/shape.side
def f111 (d : List Int) (i : Int) : Option Int :=
  bif (decide (i ≥ (List.length d : Int))) then
    some (1 : Int)
  else
    guardF (0 ≤ (IntKind.i64.wrap ((IntKind.i64.wrap ((List.length d : Int) - (1 : Int))) - i)) ∧ (IntKind.i64.wrap ((IntKind.i64.wrap ((List.length d : Int) - (1 : Int))) - i)) < (List.length d : Int)) <|
    some (rd (0 : Int) d (IntKind.i64.wrap ((IntKind.i64.wrap ((List.length d : Int) - (1 : Int))) - i)))
def C111 : Con where
  X := (List Int) × Int
  Y := Int
  e := 0
  args x := [.dat (.sl (.int .i64)) x.1, .dat (.int .i64) x.2]
  hin x := []
  F x := f111 x.1 x.2
  ret y := [.dat (.int .i64) y]
  hout y := []
  nout := 0
theorem C111_vc (d : List Int) (i : Int) (y : Int) (hF : f111 d i = some y) : vc Try.prog tab Try.f111.ntmps 0 (match Try.f111.body with | some c => c | none => .skip) (retK tab C111 Try.f111.results.toList y) (C111.shIn (d, i)).st := by
  unfold f111 at hF
  refine Or.inl ?_
  refine Or.inl ?_
  refine Or.inl ?_
  refine condI hF (fun hF => ?_) (fun hF => ?_)
  · refine Or.inl ?_
    have hy := someE hF
    subst hy
    refine And.intro rfl (Exists.intro [] (Exists.intro [] (Exists.intro [] (Exists.intro [] (Exists.intro [] (And.intro rfl (And.intro rfl (And.intro trivial trivial))))))))
  · refine Or.inl ?_
    refine guardI hF (fun hF => ?_)
    have hy := someE hF
    subst hy
    refine And.intro rfl (Exists.intro [] (Exists.intro [] (Exists.intro [] (Exists.intro [] (Exists.intro [] (And.intro rfl (And.intro rfl (And.intro trivial trivial))))))))
theorem C111_holds : C111.Holds Try.prog 111 := holds_of_vc tab_ok mixed (fn := Try.f111) (by kernel_rfl) rfl C111 (fun x y hF => C111_vc x.1 x.2 y hF)
theorem f111_in : ∃ fn, Try.prog.funcs[111]? = some fn ∧ fn.body.isSome = true ∧ (fn.name == "runtime.NumGoroutine") = false := ⟨Try.f111, by kernel_rfl, by kernel_rfl, by kernel_rfl⟩
end Go.Proofs
namespace Go.Proofs
open Go.AM
-- carousel/shape.Join
def f95_j1 (a : List Int) (b : List Int) : Option (Sum Unit Unit) :=
  bindF (f74 a) fun r4 =>
  bif (!r4) then
    some (Sum.inr ())
  else
    bindF (f74 b) fun r5 =>
    bif (!r5) then
      some (Sum.inr ())
    else
      some (Sum.inl ())
def f95_j5 (r13 : Int) (r14 : Int) : Option (Sum Unit Unit) :=
  bif (r13 != r14) then
    bif (r13 != (1 : Int)) then
      bif (r14 != (1 : Int)) then
        some (Sum.inr ())
      else
        some (Sum.inl ())
    else
      some (Sum.inl ())
  else
    some (Sum.inl ())
def f95_l4 (a : List Int) (b : List Int) (go : (Int × (List Int)) → Option (Sum Unit (List Int))) (v26 : Int) (l0 : List Int) : Option (Sum Unit (List Int)) :=
  bif (decide (v26 < (List.length (List.replicate (Int.toNat (if (List.length b : Int) > (List.length a : Int) then (List.length b : Int) else (List.length a : Int))) (0 : Int)) : Int))) then
    bindF (f111 a v26) fun r13 =>
    bindF (f111 b v26) fun r14 =>
    bindF (f95_j5 r13 r14) fun z15 =>
    sumF z15 (fun z15a =>
      guardF (0 ≤ (IntKind.i64.wrap ((IntKind.i64.wrap ((List.length l0 : Int) - (1 : Int))) - v26)) ∧ (IntKind.i64.wrap ((IntKind.i64.wrap ((List.length l0 : Int) - (1 : Int))) - v26)) < (List.length l0 : Int)) <|
      go ((IntKind.i64.wrap (v26 + (1 : Int))), (List.set l0 (Int.toNat (IntKind.i64.wrap ((IntKind.i64.wrap ((List.length l0 : Int) - (1 : Int))) - v26))) (if r14 > r13 then r14 else r13)))) (fun z15b =>
      some (Sum.inl ()))
  else
    some (Sum.inr l0)
def f95 (a : List Int) (b : List Int) : Option (Int × (List Int)) :=
  bindF (f95_j1 a b) fun z3 =>
  sumF z3 (fun z3a =>
    guardF (0 ≤ (if (List.length b : Int) > (List.length a : Int) then (List.length b : Int) else (List.length a : Int)) ∧ (if (List.length b : Int) > (List.length a : Int) then (List.length b : Int) else (List.length a : Int)) ≤ (if (List.length b : Int) > (List.length a : Int) then (List.length b : Int) else (List.length a : Int)) ∧ Int.toNat (if (List.length b : Int) > (List.length a : Int) then (List.length b : Int) else (List.length a : Int)) * 8 ≤ 140737488355328) <|
    bindF (loopF (fun go x => f95_l4 a b go x.1 x.2) fuelN ((0 : Int), (List.replicate (Int.toNat (if (List.length b : Int) > (List.length a : Int) then (List.length b : Int) else (List.length a : Int))) (0 : Int)))) fun z12 =>
    sumF z12 (fun z12a =>
      some ((4 : Int), [])) (fun z12b =>
      bindF (f74 z12b) fun r16 =>
      bif (!r16) then
        some ((2 : Int), [])
      else
        some ((0 : Int), z12b))) (fun z3b =>
    some ((1 : Int), []))
def C95 : Con where
  X := (List Int) × (List Int)
  Y := Int × (List Int)
  e := 0
  args x := [.dat (.sl (.int .i64)) x.1, .dat (.sl (.int .i64)) x.2]
  hin x := []
  F x := f95 x.1 x.2
  ret y := [.raw false [(.osl 0)], .dat (.int .i64) y.1]
  hout y := [(0, .arr 3 (.int .i64) y.2)]
  nout := 1
theorem C95_vc (a : List Int) (b : List Int) (y : Int × (List Int)) (hF : f95 a b = some y) : vc Try.prog tab Try.f95.ntmps 0 (match Try.f95.body with | some c => c | none => .skip) (retK tab C95 Try.f95.results.toList y) (C95.shIn (a, b)).st := by
  unfold f95 at hF
  refine Or.inl ?_
  obtain ⟨z3, hz3, hF⟩ := bindE hF
  refine Or.inr ⟨Sum.elim (fun z3a => [(0, ⟨[(0, .dat (.sl (.int .i64)) a), (1, .dat (.sl (.int .i64)) b)], [], 0⟩)]) (fun z3b => [(1, ⟨[(4, .raw false [(.c (.slice none 0 0))]), (5, .dat (.int .i64) (1 : Int))], [], 0⟩)]) z3, ?_, ?_⟩
  · have hF := hz3
    clear hz3
    unfold f95_j1 at hF
    refine Or.inl ?_
    obtain ⟨r4, hr4, hF⟩ := bindE hF
    refine Or.inl (And.intro f74_in (callV0 (callI C74 a r4 [] false C74_holds hr4 rfl rfl ?_)))
    refine (And.intro rfl (And.intro (fun h => nomatch h) (And.intro rfl (And.intro rfl (And.intro trivial (And.intro trivial ?_))))))
    refine condN hF (fun hF => ?_) (fun hF => ?_)
    · refine gdYF ?_
      obtain ⟨r5, hr5, hF⟩ := bindE hF
      refine Or.inl (And.intro f74_in (callV0 (callI C74 b r5 [] false C74_holds hr5 rfl rfl ?_)))
      refine (And.intro rfl (And.intro (fun h => nomatch h) (And.intro rfl (And.intro rfl (And.intro trivial (And.intro trivial ?_))))))
      refine gdYF ?_
      refine condF ?_
      refine condI hF (fun hF => ?_) (fun hF => ?_)
      · refine Or.inl ?_
        have hz := someE hF
        subst hz
        refine Exists.intro [] (Exists.intro [] (Exists.intro [] (Exists.intro [] (Exists.intro [] (And.intro rfl (And.intro rfl (And.intro (And.intro rfl trivial) trivial)))))))
      · have hz := someE hF
        subst hz
        refine Exists.intro [] (Exists.intro [] (Exists.intro [] (Exists.intro [] (Exists.intro [] (And.intro rfl (And.intro rfl (And.intro rfl (And.intro trivial trivial))))))))
    · refine gdNF ?_
      refine gdNF ?_
      refine condT ?_
      refine condT ?_
      refine Or.inl ?_
      have hz := someE hF
      subst hz
      refine Exists.intro [] (Exists.intro [] (Exists.intro [] (Exists.intro [] (Exists.intro [] (And.intro rfl (And.intro rfl (And.intro (And.intro rfl trivial) trivial)))))))
  · rcases z3 with z3a | z3b
    · dsimp only [sumF] at hF
      refine And.intro ?_ trivial
      refine Or.inl ?_
      refine guardI hF (fun hF => ?_)
      refine Or.inl ?_
      refine Or.inl ?_
      obtain ⟨z12, hz12, hF⟩ := bindE hF
      refine loopI (Int × (List Int)) (Sum Unit (List Int)) (fun x => ⟨[(0, .dat (.sl (.int .i64)) a), (1, .dat (.sl (.int .i64)) b), (6, .raw false [(.osl 0)]), (25, .dat (.int .i64) (List.length (List.replicate (Int.toNat (if (List.length b : Int) > (List.length a : Int) then (List.length b : Int) else (List.length a : Int))) (0 : Int)) : Int)), (26, .dat (.int .i64) x.1)], [(0, .arr 3 (.int .i64) x.2)], 1⟩) (fun z => Sum.elim (fun za => [(1, ⟨[(4, .raw false [(.c (.slice none 0 0))]), (5, .dat (.int .i64) (4 : Int))], [], 0⟩)]) (fun zb => [(2, ⟨[(6, .raw false [(.osl 0)])], [(0, .arr 3 (.int .i64) zb)], 1⟩)]) z) (loopF (fun go x => f95_l4 a b go x.1 x.2)) fuelN ((0 : Int), (List.replicate (Int.toNat (if (List.length b : Int) > (List.length a : Int) then (List.length b : Int) else (List.length a : Int))) (0 : Int))) z12 (And.intro hz12 (And.intro (Exists.intro [] (Exists.intro [] (Exists.intro [] (Exists.intro [] (Exists.intro [(0, some 0)] (And.intro rfl (And.intro rfl (And.intro rfl (And.intro rfl (And.intro rfl (And.intro (And.intro rfl trivial) (And.intro rfl trivial)))))))))))) (And.intro (fun _ _ h => loopZ h) (And.intro (fun m => curI (fun v26 => fun l0 z hF => ?_)) ?_))))
      · have hF : f95_l4 a b (loopF (fun go x => f95_l4 a b go x.1 x.2) m) v26 l0 = some z := hF
        unfold f95_l4 at hF
        refine Or.inl ?_
        refine Or.inl ?_
        refine condI hF (fun hF => ?_) (fun hF => ?_)
        · refine Or.inl ?_
          refine Or.inl ?_
          refine Or.inl ?_
          obtain ⟨r13, hr13, hF⟩ := bindE hF
          refine Or.inl (And.intro f111_in (callV0 (callI C111 (a, v26) r13 [] false C111_holds hr13 rfl rfl ?_)))
          refine (And.intro rfl (And.intro rfl (And.intro (fun h => nomatch h) (And.intro rfl (And.intro rfl (And.intro trivial (And.intro trivial ?_)))))))
          obtain ⟨r14, hr14, hF⟩ := bindE hF
          refine Or.inl (And.intro f111_in (callV0 (callI C111 (b, v26) r14 [] false C111_holds hr14 rfl rfl ?_)))
          refine (And.intro rfl (And.intro rfl (And.intro (fun h => nomatch h) (And.intro rfl (And.intro rfl (And.intro trivial (And.intro trivial ?_)))))))
          obtain ⟨z15, hz15, hF⟩ := bindE hF
          refine Or.inr ⟨Sum.elim (fun z15a => [(0, ⟨[(0, .dat (.sl (.int .i64)) a), (1, .dat (.sl (.int .i64)) b), (6, .raw false [(.osl 0)]), (7, .dat (.int .i64) v26), (8, .dat (.int .i64) r13), (9, .dat (.int .i64) r14), (25, .dat (.int .i64) (List.length (List.replicate (Int.toNat (if (List.length b : Int) > (List.length a : Int) then (List.length b : Int) else (List.length a : Int))) (0 : Int)) : Int)), (26, .dat (.int .i64) v26)], [(0, .arr 3 (.int .i64) l0)], 1⟩)]) (fun z15b => [(1, ⟨[(4, .raw false [(.c (.slice none 0 0))]), (5, .dat (.int .i64) (4 : Int))], [], 0⟩)]) z15, ?_, ?_⟩
          · have hF := hz15
            clear hz15
            unfold f95_j5 at hF
            refine Or.inl ?_
            refine condI hF (fun hF => ?_) (fun hF => ?_)
            · refine gdYT ?_
              refine condT ?_
              refine condI hF (fun hF => ?_) (fun hF => ?_)
              · refine gdYT ?_
                refine condT ?_
                refine condI hF (fun hF => ?_) (fun hF => ?_)
                · refine Or.inl ?_
                  have hz := someE hF
                  subst hz
                  refine Exists.intro [] (Exists.intro [] (Exists.intro [] (Exists.intro [] (Exists.intro [] (And.intro rfl (And.intro rfl (And.intro (And.intro rfl trivial) trivial)))))))
                · have hz := someE hF
                  subst hz
                  refine Exists.intro [] (Exists.intro [] (Exists.intro [] (Exists.intro [] (Exists.intro [(0, some 0)] (And.intro rfl (And.intro rfl (And.intro rfl (And.intro rfl (And.intro rfl (And.intro rfl (And.intro rfl (And.intro rfl (And.intro (And.intro rfl trivial) (And.intro rfl trivial))))))))))))))
              · refine gdNT ?_
                refine condF ?_
                refine condF ?_
                have hz := someE hF
                subst hz
                refine Exists.intro [] (Exists.intro [] (Exists.intro [] (Exists.intro [] (Exists.intro [(0, some 0)] (And.intro rfl (And.intro rfl (And.intro rfl (And.intro rfl (And.intro rfl (And.intro rfl (And.intro rfl (And.intro rfl (And.intro (And.intro rfl trivial) (And.intro rfl trivial))))))))))))))
            · refine gdNT ?_
              refine condF ?_
              refine gdNT ?_
              refine gdNT ?_
              refine condF ?_
              refine condF ?_
              have hz := someE hF
              subst hz
              refine Exists.intro [] (Exists.intro [] (Exists.intro [] (Exists.intro [] (Exists.intro [(0, some 0)] (And.intro rfl (And.intro rfl (And.intro rfl (And.intro rfl (And.intro rfl (And.intro rfl (And.intro rfl (And.intro rfl (And.intro (And.intro rfl trivial) (And.intro rfl trivial))))))))))))))
          · rcases z15 with z15a | z15b
            · dsimp only [sumF] at hF
              refine And.intro ?_ trivial
              refine guardI hF (fun hF => ?_)
              refine Or.inl ?_
              refine Exists.intro ((IntKind.i64.wrap (v26 + (1 : Int))), (List.set l0 (Int.toNat (IntKind.i64.wrap ((IntKind.i64.wrap ((List.length l0 : Int) - (1 : Int))) - v26))) (if r14 > r13 then r14 else r13))) (And.intro hF (Exists.intro [] (Exists.intro [] (Exists.intro [] (Exists.intro [] (Exists.intro [(0, some 0)] (And.intro rfl (And.intro rfl (And.intro rfl (And.intro rfl (And.intro rfl (And.intro (And.intro rfl trivial) (And.intro rfl trivial)))))))))))))
            · dsimp only [sumF] at hF
              refine And.intro ?_ trivial
              have hz := someE hF
              subst hz
              refine Exists.intro [] (Exists.intro [] (Exists.intro [] (Exists.intro [] (Exists.intro [] (And.intro rfl (And.intro rfl (And.intro (And.intro rfl trivial) trivial)))))))
        · have hz := someE hF
          subst hz
          refine Exists.intro [] (Exists.intro [] (Exists.intro [] (Exists.intro [] (Exists.intro [(0, some 0)] (And.intro rfl (And.intro (And.intro rfl trivial) (And.intro rfl trivial)))))))
      · rcases z12 with z12a | z12b
        · dsimp only [sumF] at hF
          refine And.intro ?_ trivial
          have hy := someE hF
          subst hy
          refine And.intro rfl (Exists.intro [] (Exists.intro [] (Exists.intro [] (Exists.intro [] (Exists.intro [(0, none)] (And.intro rfl (And.intro rfl (And.intro (And.intro rfl trivial) (And.intro rfl trivial)))))))))
        · dsimp only [sumF] at hF
          refine And.intro ?_ trivial
          refine Or.inl ?_
          refine Or.inl ?_
          obtain ⟨r16, hr16, hF⟩ := bindE hF
          refine Or.inl (And.intro f74_in (callV0 (callI C74 z12b r16 [] true C74_holds hr16 rfl rfl ?_)))
          refine (And.intro rfl (And.intro (fun _ => rfl) (And.intro rfl (And.intro rfl (And.intro trivial (And.intro trivial ?_))))))
          refine condI hF (fun hF => ?_) (fun hF => ?_)
          · refine Or.inl ?_
            have hy := someE hF
            subst hy
            refine And.intro rfl (Exists.intro [] (Exists.intro [] (Exists.intro [] (Exists.intro [] (Exists.intro [(0, none)] (And.intro rfl (And.intro rfl (And.intro (And.intro rfl trivial) (And.intro rfl trivial)))))))))
          · refine Or.inl ?_
            have hy := someE hF
            subst hy
            refine And.intro rfl (Exists.intro [] (Exists.intro [] (Exists.intro [] (Exists.intro [] (Exists.intro [(0, some 0)] (And.intro rfl (And.intro rfl (And.intro (And.intro rfl trivial) (And.intro rfl trivial)))))))))
    · dsimp only [sumF] at hF
      refine And.intro ?_ trivial
      have hy := someE hF
      subst hy
      refine And.intro rfl (Exists.intro [] (Exists.intro [] (Exists.intro [] (Exists.intro [] (Exists.intro [(0, none)] (And.intro rfl (And.intro rfl (And.intro (And.intro rfl trivial) (And.intro rfl trivial)))))))))
theorem C95_holds : C95.Holds Try.prog 95 := holds_of_vc tab_ok mixed (fn := Try.f95) (by kernel_rfl) rfl C95 (fun x y hF => C95_vc x.1 x.2 y hF)
theorem f95_in : ∃ fn, Try.prog.funcs[95]? = some fn ∧ fn.body.isSome = true ∧ (fn.name == "runtime.NumGoroutine") = false := ⟨Try.f95, by kernel_rfl, by kernel_rfl, by kernel_rfl⟩
end Go.Proofs
namespace Go.Proofs
open Go.AM
-- carousel/shape.Spread
def f96_j13 (d : List Int) (big : List Int) (q11_19 : List Int) (v23 : Int) (rest : Int) (i : Int) (l1_2 : List Int) : Option (List Int) :=
  guardF (0 ≤ (IntKind.i64.wrap (i - (IntKind.i64.wrap ((List.length big : Int) - (List.length d : Int))))) ∧ (IntKind.i64.wrap (i - (IntKind.i64.wrap ((List.length big : Int) - (List.length d : Int))))) < (List.length d : Int)) <|
  bif (decide ((rd (0 : Int) d (IntKind.i64.wrap (i - (IntKind.i64.wrap ((List.length big : Int) - (List.length d : Int)))))) > (1 : Int))) then
    guardF (0 ≤ v23 ∧ v23 < (List.length l1_2 : Int)) <|
    guardF (0 ≤ i ∧ i < (List.length big : Int)) <|
    guardF ((rd (0 : Int) big i) ≠ 0) <|
    guardF (0 ≤ (IntKind.i64.wrap (i - (IntKind.i64.wrap ((List.length big : Int) - (List.length d : Int))))) ∧ (IntKind.i64.wrap (i - (IntKind.i64.wrap ((List.length big : Int) - (List.length d : Int))))) < (List.length q11_19 : Int)) <|
    guardF (0 ≤ v23 ∧ v23 < (List.length l1_2 : Int)) <|
    some (List.set l1_2 (Int.toNat v23) (IntKind.i64.wrap ((rd (0 : Int) l1_2 v23) + (IntKind.i64.wrap ((Int.tmod rest (rd (0 : Int) big i)) * (rd (0 : Int) q11_19 (IntKind.i64.wrap (i - (IntKind.i64.wrap ((List.length big : Int) - (List.length d : Int)))))))))))
  else
    some l1_2
def f96_l12 (d : List Int) (big : List Int) (q11_19 : List Int) (v23 : Int) (go : (Int × Int × (List Int)) → Option (List Int)) (rest : Int) (i : Int) (l1_2 : List Int) : Option (List Int) :=
  bif (decide (i ≥ (IntKind.i64.wrap ((List.length big : Int) - (List.length d : Int))))) then
    bindF (f96_j13 d big q11_19 v23 rest i l1_2) fun z14 =>
    guardF (0 ≤ i ∧ i < (List.length big : Int)) <|
    guardF ((rd (0 : Int) big i) ≠ 0) <|
    go ((IntKind.i64.wrap (Int.tdiv rest (rd (0 : Int) big i))), (IntKind.i64.wrap (i - (1 : Int))), z14)
  else
    some l1_2
def f96_l9 (d : List Int) (big : List Int) (q11_19 : List Int) (r1 : Int) (go : (Int × (List Int)) → Option (List Int)) (v23 : Int) (l1 : List Int) : Option (List Int) :=
  bif (decide (v23 < (List.length (List.replicate (Int.toNat r1) (0 : Int)) : Int))) then
    bindF (loopF (fun go x => f96_l12 d big q11_19 v23 go x.1 x.2.1 x.2.2) fuelN (v23, (IntKind.i64.wrap ((List.length big : Int) - (1 : Int))), l1)) fun z13 =>
    go ((IntKind.i64.wrap (v23 + (1 : Int))), z13)
  else
    some l1
def f96 (d : List Int) (big : List Int) : Option (List Int) :=
  bindF (f50 d) fun q11_19 =>
  bindF (f49 big) fun r1 =>
  guardF (0 ≤ r1 ∧ r1 ≤ r1 ∧ Int.toNat r1 * 8 ≤ 140737488355328) <|
  bindF (loopF (fun go x => f96_l9 d big q11_19 r1 go x.1 x.2) fuelN ((0 : Int), (List.replicate (Int.toNat r1) (0 : Int)))) fun z10 =>
  some z10
def C96 : Con where
  X := (List Int) × (List Int)
  Y := List Int
  e := 0
  args x := [.dat (.sl (.int .i64)) x.1, .dat (.sl (.int .i64)) x.2]
  hin x := []
  F x := f96 x.1 x.2
  ret y := [.raw false [(.osl 0)]]
  hout y := [(0, .arr 3 (.int .i64) y)]
  nout := 1
theorem C96_vc (d : List Int) (big : List Int) (y : List Int) (hF : f96 d big = some y) : vc Try.prog tab Try.f96.ntmps 0 (match Try.f96.body with | some c => c | none => .skip) (retK tab C96 Try.f96.results.toList y) (C96.shIn (d, big)).st := by
  unfold f96 at hF
  refine Or.inl ?_
  refine Or.inl ?_
  obtain ⟨q11_19, hq11_19, hF⟩ := bindE hF
  refine Or.inl (And.intro f50_in (callV0 (callI C50 d q11_19 [] false C50_holds hq11_19 rfl rfl ?_)))
  refine (And.intro rfl (And.intro (fun h => nomatch h) (And.intro rfl (And.intro rfl (And.intro trivial (And.intro trivial ?_))))))
  refine Or.inl ?_
  obtain ⟨r1, hr1, hF⟩ := bindE hF
  refine Or.inl (And.intro f49_in (callV0 (callI C49 big r1 [] false C49_holds hr1 rfl rfl ?_)))
  refine (And.intro rfl (And.intro (fun h => nomatch h) (And.intro rfl (And.intro rfl (And.intro trivial (And.intro trivial ?_))))))
  refine guardI hF (fun hF => ?_)
  refine Or.inl ?_
  refine Or.inl ?_
  obtain ⟨z10, hz10, hF⟩ := bindE hF
  refine loopI (Int × (List Int)) (List Int) (fun x => ⟨[(0, .dat (.sl (.int .i64)) d), (1, .dat (.sl (.int .i64)) big), (5, .raw false [(.osl 0)]), (6, .dat (.int .i64) (IntKind.i64.wrap ((List.length big : Int) - (List.length d : Int)))), (7, .raw false [(.osl 1)]), (22, .dat (.int .i64) (List.length (List.replicate (Int.toNat r1) (0 : Int)) : Int)), (23, .dat (.int .i64) x.1)], [(0, .arr 3 (.int .i64) q11_19), (1, .arr 3 (.int .i64) x.2)], 2⟩) (fun z => [(2, ⟨[(7, .raw false [(.osl 0)])], [(0, .arr 3 (.int .i64) z)], 1⟩)]) (loopF (fun go x => f96_l9 d big q11_19 r1 go x.1 x.2)) fuelN ((0 : Int), (List.replicate (Int.toNat r1) (0 : Int))) z10 (And.intro hz10 (And.intro (Exists.intro [] (Exists.intro [] (Exists.intro [] (Exists.intro [] (Exists.intro [(0, some 0), (1, some 1)] (And.intro rfl (And.intro rfl (And.intro rfl (And.intro rfl (And.intro rfl (And.intro rfl (And.intro (And.intro rfl (And.intro rfl trivial)) (And.intro rfl (And.intro rfl trivial)))))))))))))) (And.intro (fun _ _ h => loopZ h) (And.intro (fun m => curI (fun v23 => fun l1 z hF => ?_)) ?_))))
  · have hF : f96_l9 d big q11_19 r1 (loopF (fun go x => f96_l9 d big q11_19 r1 go x.1 x.2) m) v23 l1 = some z := hF
    unfold f96_l9 at hF
    refine Or.inl ?_
    refine Or.inl ?_
    refine condI hF (fun hF => ?_) (fun hF => ?_)
    · refine Or.inl ?_
      refine Or.inl ?_
      refine Or.inl ?_
      refine Or.inl ?_
      obtain ⟨z13, hz13, hF⟩ := bindE hF
      refine loopI (Int × Int × (List Int)) (List Int) (fun x => ⟨[(0, .dat (.sl (.int .i64)) d), (1, .dat (.sl (.int .i64)) big), (5, .raw false [(.osl 0)]), (6, .dat (.int .i64) (IntKind.i64.wrap ((List.length big : Int) - (List.length d : Int)))), (7, .raw false [(.osl 1)]), (8, .dat (.int .i64) v23), (9, .dat (.int .i64) x.1), (10, .dat (.int .i64) x.2.1), (22, .dat (.int .i64) (List.length (List.replicate (Int.toNat r1) (0 : Int)) : Int)), (23, .dat (.int .i64) v23)], [(0, .arr 3 (.int .i64) q11_19), (1, .arr 3 (.int .i64) x.2.2)], 2⟩) (fun z => [(4, ⟨[(0, .dat (.sl (.int .i64)) d), (1, .dat (.sl (.int .i64)) big), (5, .raw false [(.osl 0)]), (6, .dat (.int .i64) (IntKind.i64.wrap ((List.length big : Int) - (List.length d : Int)))), (7, .raw false [(.osl 1)]), (22, .dat (.int .i64) (List.length (List.replicate (Int.toNat r1) (0 : Int)) : Int)), (23, .dat (.int .i64) v23)], [(0, .arr 3 (.int .i64) q11_19), (1, .arr 3 (.int .i64) z)], 2⟩)]) (loopF (fun go x => f96_l12 d big q11_19 v23 go x.1 x.2.1 x.2.2)) fuelN (v23, (IntKind.i64.wrap ((List.length big : Int) - (1 : Int))), l1) z13 (And.intro hz13 (And.intro (Exists.intro [] (Exists.intro [] (Exists.intro [] (Exists.intro [] (Exists.intro [(0, some 0), (1, some 1)] (And.intro rfl (And.intro rfl (And.intro rfl (And.intro rfl (And.intro rfl (And.intro rfl (And.intro rfl (And.intro rfl (And.intro rfl (And.intro (And.intro rfl (And.intro rfl trivial)) (And.intro rfl (And.intro rfl trivial))))))))))))))))) (And.intro (fun _ _ h => loopZ h) (And.intro (fun m => curI (fun rest => curI (fun i => fun l1_2 z hF => ?_))) ?_))))
      · have hF : f96_l12 d big q11_19 v23 (loopF (fun go x => f96_l12 d big q11_19 v23 go x.1 x.2.1 x.2.2) m) rest i l1_2 = some z := hF
        unfold f96_l12 at hF
        refine Or.inl ?_
        refine Or.inl ?_
        refine condI hF (fun hF => ?_) (fun hF => ?_)
        · refine Or.inl ?_
          obtain ⟨z14, hz14, hF⟩ := bindE hF
          refine Or.inr ⟨[(0, ⟨[(0, .dat (.sl (.int .i64)) d), (1, .dat (.sl (.int .i64)) big), (5, .raw false [(.osl 0)]), (6, .dat (.int .i64) (IntKind.i64.wrap ((List.length big : Int) - (List.length d : Int)))), (7, .raw false [(.osl 1)]), (8, .dat (.int .i64) v23), (9, .dat (.int .i64) rest), (10, .dat (.int .i64) i), (22, .dat (.int .i64) (List.length (List.replicate (Int.toNat r1) (0 : Int)) : Int)), (23, .dat (.int .i64) v23)], [(0, .arr 3 (.int .i64) q11_19), (1, .arr 3 (.int .i64) z14)], 2⟩)], ?_, ?_⟩
          · have hF := hz14
            clear hz14
            unfold f96_j13 at hF
            refine Or.inl ?_
            refine guardI hF (fun hF => ?_)
            refine condI hF (fun hF => ?_) (fun hF => ?_)
            · refine Exists.intro (.take 0 (.take 1 (.take 2 (.take 3 (.take 4 (.take 5 (.take 6 (.take 7 (.take 8 (.take 9 (.take 10 (.take 11 (.take 12 (.take 13 (.take 14 (.take 15 (.take 16 (.take 17 (.take 18 (.alt 19 .done .done)))))))))))))))))))) (Exists.intro [(19, [1])] (Exists.intro [] (And.intro rfl ?_)))
              refine guardI hF (fun hF => ?_)
              refine guardI hF (fun hF => ?_)
              refine guardI hF (fun hF => ?_)
              refine guardI hF (fun hF => ?_)
              refine guardI hF (fun hF => ?_)
              refine And.intro trivial ?_
              refine Or.inl ?_
              have hz := someE hF
              subst hz
              refine Exists.intro [] (Exists.intro [] (Exists.intro [] (Exists.intro [] (Exists.intro [(0, some 0), (1, some 1)] (And.intro rfl (And.intro rfl (And.intro rfl (And.intro rfl (And.intro rfl (And.intro rfl (And.intro rfl (And.intro rfl (And.intro rfl (And.intro (And.intro rfl (And.intro rfl trivial)) (And.intro rfl (And.intro rfl trivial))))))))))))))))
            · have hz := someE hF
              subst hz
              refine Exists.intro [] (Exists.intro [] (Exists.intro [] (Exists.intro [] (Exists.intro [(0, some 0), (1, some 1)] (And.intro rfl (And.intro rfl (And.intro rfl (And.intro rfl (And.intro rfl (And.intro rfl (And.intro rfl (And.intro rfl (And.intro rfl (And.intro (And.intro rfl (And.intro rfl trivial)) (And.intro rfl (And.intro rfl trivial))))))))))))))))
          · refine And.intro ?_ trivial
            refine guardI hF (fun hF => ?_)
            refine guardI hF (fun hF => ?_)
            refine Exists.intro ((IntKind.i64.wrap (Int.tdiv rest (rd (0 : Int) big i))), (IntKind.i64.wrap (i - (1 : Int))), z14) (And.intro hF (Exists.intro [] (Exists.intro [] (Exists.intro [] (Exists.intro [] (Exists.intro [(0, some 0), (1, some 1)] (And.intro rfl (And.intro rfl (And.intro rfl (And.intro rfl (And.intro rfl (And.intro rfl (And.intro rfl (And.intro rfl (And.intro rfl (And.intro (And.intro rfl (And.intro rfl trivial)) (And.intro rfl (And.intro rfl trivial))))))))))))))))))
        · have hz := someE hF
          subst hz
          refine Exists.intro [] (Exists.intro [] (Exists.intro [] (Exists.intro [] (Exists.intro [(0, some 0), (1, some 1)] (And.intro rfl (And.intro rfl (And.intro rfl (And.intro rfl (And.intro rfl (And.intro rfl (And.intro (And.intro rfl (And.intro rfl trivial)) (And.intro rfl (And.intro rfl trivial)))))))))))))
      · refine And.intro ?_ trivial
        refine Exists.intro ((IntKind.i64.wrap (v23 + (1 : Int))), z13) (And.intro hF (Exists.intro [] (Exists.intro [] (Exists.intro [] (Exists.intro [] (Exists.intro [(0, some 0), (1, some 1)] (And.intro rfl (And.intro rfl (And.intro rfl (And.intro rfl (And.intro rfl (And.intro rfl (And.intro (And.intro rfl (And.intro rfl trivial)) (And.intro rfl (And.intro rfl trivial)))))))))))))))
    · have hz := someE hF
      subst hz
      refine Exists.intro [] (Exists.intro [] (Exists.intro [] (Exists.intro [] (Exists.intro [(0, some 1)] (And.intro rfl (And.intro (And.intro rfl trivial) (And.intro rfl trivial)))))))
  · refine And.intro ?_ trivial
    refine Or.inl ?_
    have hy := someE hF
    subst hy
    refine And.intro rfl (Exists.intro [] (Exists.intro [] (Exists.intro [] (Exists.intro [] (Exists.intro [(0, some 0)] (And.intro rfl (And.intro (And.intro rfl trivial) (And.intro rfl trivial))))))))
theorem C96_holds : C96.Holds Try.prog 96 := holds_of_vc tab_ok mixed (fn := Try.f96) (by kernel_rfl) rfl C96 (fun x y hF => C96_vc x.1 x.2 y hF)
theorem f96_in : ∃ fn, Try.prog.funcs[96]? = some fn ∧ fn.body.isSome = true ∧ (fn.name == "runtime.NumGoroutine") = false := ⟨Try.f96, by kernel_rfl, by kernel_rfl, by kernel_rfl⟩
end Go.Proofs
