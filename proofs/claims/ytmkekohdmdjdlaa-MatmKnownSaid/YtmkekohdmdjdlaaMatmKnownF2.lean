import Derived.Test.YtmkekohdmdjdlaaMatmKnownF1
set_option linter.unusedVariables false
set_option maxRecDepth 100000
set_option maxHeartbeats 8000000
namespace Go.Proofs
open Go.AM
-- math/bits.Div64
def f85_j4 (lo : Int) (y_ : Int) (q6_7 : Int) (q1 : Int) (rhat : Int) : Option (Sum Unit Unit) :=
  bif (decide (q1 ≥ (4294967296 : Int))) then
    some (Sum.inl ())
  else
    bif (decide ((IntKind.u64.wrap (q1 * (bitsOf IntKind.u64 (fun p q => p &&& q) (IntKind.u64.wrap (y_ * 2 ^ min (Int.toNat (IntKind.u64.wrap q6_7)) (IntKind.bits IntKind.u64))) (4294967295 : Int)))) > (IntKind.u64.wrap ((IntKind.u64.wrap ((4294967296 : Int) * rhat)) + (Int.fdiv (IntKind.u64.wrap (lo * 2 ^ min (Int.toNat (IntKind.u64.wrap q6_7)) (IntKind.bits IntKind.u64))) (2 ^ min (Int.toNat (32 : Int)) (IntKind.bits IntKind.u64))))))) then
      some (Sum.inl ())
    else
      some (Sum.inr ())
def f85_l3 (lo : Int) (y_ : Int) (q6_7 : Int) (go : (Int × Int) → Option Int) (q1 : Int) (rhat : Int) : Option Int :=
  bindF (f85_j4 lo y_ q6_7 q1 rhat) fun z4 =>
  sumF z4 (fun z4a =>
    bif (decide ((IntKind.u64.wrap (rhat + (Int.fdiv (IntKind.u64.wrap (y_ * 2 ^ min (Int.toNat (IntKind.u64.wrap q6_7)) (IntKind.bits IntKind.u64))) (2 ^ min (Int.toNat (32 : Int)) (IntKind.bits IntKind.u64))))) ≥ (4294967296 : Int))) then
      some (IntKind.u64.wrap (q1 - (1 : Int)))
    else
      go ((IntKind.u64.wrap (q1 - (1 : Int))), (IntKind.u64.wrap (rhat + (Int.fdiv (IntKind.u64.wrap (y_ * 2 ^ min (Int.toNat (IntKind.u64.wrap q6_7)) (IntKind.bits IntKind.u64))) (2 ^ min (Int.toNat (32 : Int)) (IntKind.bits IntKind.u64))))))) (fun z4b =>
    some q1)
def f85_j8 (lo : Int) (y_ : Int) (q6_7 : Int) (rhat : Int) (q0 : Int) : Option (Sum Unit Unit) :=
  bif (decide (q0 ≥ (4294967296 : Int))) then
    some (Sum.inl ())
  else
    bif (decide ((IntKind.u64.wrap (q0 * (bitsOf IntKind.u64 (fun p q => p &&& q) (IntKind.u64.wrap (y_ * 2 ^ min (Int.toNat (IntKind.u64.wrap q6_7)) (IntKind.bits IntKind.u64))) (4294967295 : Int)))) > (IntKind.u64.wrap ((IntKind.u64.wrap ((4294967296 : Int) * rhat)) + (bitsOf IntKind.u64 (fun p q => p &&& q) (IntKind.u64.wrap (lo * 2 ^ min (Int.toNat (IntKind.u64.wrap q6_7)) (IntKind.bits IntKind.u64))) (4294967295 : Int)))))) then
      some (Sum.inl ())
    else
      some (Sum.inr ())
def f85_l7 (lo : Int) (y_ : Int) (q6_7 : Int) (go : (Int × Int) → Option Int) (rhat : Int) (q0 : Int) : Option Int :=
  bindF (f85_j8 lo y_ q6_7 rhat q0) fun z8 =>
  sumF z8 (fun z8a =>
    bif (decide ((IntKind.u64.wrap (rhat + (Int.fdiv (IntKind.u64.wrap (y_ * 2 ^ min (Int.toNat (IntKind.u64.wrap q6_7)) (IntKind.bits IntKind.u64))) (2 ^ min (Int.toNat (32 : Int)) (IntKind.bits IntKind.u64))))) ≥ (4294967296 : Int))) then
      some (IntKind.u64.wrap (q0 - (1 : Int)))
    else
      go ((IntKind.u64.wrap (rhat + (Int.fdiv (IntKind.u64.wrap (y_ * 2 ^ min (Int.toNat (IntKind.u64.wrap q6_7)) (IntKind.bits IntKind.u64))) (2 ^ min (Int.toNat (32 : Int)) (IntKind.bits IntKind.u64))))), (IntKind.u64.wrap (q0 - (1 : Int))))) (fun z8b =>
    some q0)
def f85 (hi : Int) (lo : Int) (y_ : Int) : Option (Int × Int) :=
  bif (y_ == (0 : Int)) then
    none
  else
    bif (decide (y_ ≤ hi)) then
      none
    else
      bif (hi == (0 : Int)) then
        guardF (y_ ≠ 0) <|
        guardF (y_ ≠ 0) <|
        some ((IntKind.u64.wrap (Int.tdiv lo y_)), (Int.tmod lo y_))
      else
        bindF (f103 y_) fun q6_7 =>
        guardF (0 ≤ (IntKind.u64.wrap q6_7)) <|
        guardF (0 ≤ (IntKind.u64.wrap q6_7)) <|
        guardF (0 ≤ (IntKind.u64.wrap ((64 : Int) - (IntKind.u64.wrap q6_7)))) <|
        guardF (0 ≤ (IntKind.u64.wrap q6_7)) <|
        guardF ((Int.fdiv (IntKind.u64.wrap (y_ * 2 ^ min (Int.toNat (IntKind.u64.wrap q6_7)) (IntKind.bits IntKind.u64))) (2 ^ min (Int.toNat (32 : Int)) (IntKind.bits IntKind.u64))) ≠ 0) <|
        bindF (loopF (fun go x => f85_l3 lo y_ q6_7 go x.1 x.2) fuelN ((IntKind.u64.wrap (Int.tdiv (bitsOf IntKind.u64 (fun p q => p ||| q) (IntKind.u64.wrap (hi * 2 ^ min (Int.toNat (IntKind.u64.wrap q6_7)) (IntKind.bits IntKind.u64))) (Int.fdiv lo (2 ^ min (Int.toNat (IntKind.u64.wrap ((64 : Int) - (IntKind.u64.wrap q6_7)))) (IntKind.bits IntKind.u64)))) (Int.fdiv (IntKind.u64.wrap (y_ * 2 ^ min (Int.toNat (IntKind.u64.wrap q6_7)) (IntKind.bits IntKind.u64))) (2 ^ min (Int.toNat (32 : Int)) (IntKind.bits IntKind.u64))))), (IntKind.u64.wrap ((bitsOf IntKind.u64 (fun p q => p ||| q) (IntKind.u64.wrap (hi * 2 ^ min (Int.toNat (IntKind.u64.wrap q6_7)) (IntKind.bits IntKind.u64))) (Int.fdiv lo (2 ^ min (Int.toNat (IntKind.u64.wrap ((64 : Int) - (IntKind.u64.wrap q6_7)))) (IntKind.bits IntKind.u64)))) - (IntKind.u64.wrap ((IntKind.u64.wrap (Int.tdiv (bitsOf IntKind.u64 (fun p q => p ||| q) (IntKind.u64.wrap (hi * 2 ^ min (Int.toNat (IntKind.u64.wrap q6_7)) (IntKind.bits IntKind.u64))) (Int.fdiv lo (2 ^ min (Int.toNat (IntKind.u64.wrap ((64 : Int) - (IntKind.u64.wrap q6_7)))) (IntKind.bits IntKind.u64)))) (Int.fdiv (IntKind.u64.wrap (y_ * 2 ^ min (Int.toNat (IntKind.u64.wrap q6_7)) (IntKind.bits IntKind.u64))) (2 ^ min (Int.toNat (32 : Int)) (IntKind.bits IntKind.u64))))) * (Int.fdiv (IntKind.u64.wrap (y_ * 2 ^ min (Int.toNat (IntKind.u64.wrap q6_7)) (IntKind.bits IntKind.u64))) (2 ^ min (Int.toNat (32 : Int)) (IntKind.bits IntKind.u64))))))))) fun z3 =>
        guardF ((Int.fdiv (IntKind.u64.wrap (y_ * 2 ^ min (Int.toNat (IntKind.u64.wrap q6_7)) (IntKind.bits IntKind.u64))) (2 ^ min (Int.toNat (32 : Int)) (IntKind.bits IntKind.u64))) ≠ 0) <|
        bindF (loopF (fun go x => f85_l7 lo y_ q6_7 go x.1 x.2) fuelN ((IntKind.u64.wrap ((IntKind.u64.wrap ((IntKind.u64.wrap ((IntKind.u64.wrap ((bitsOf IntKind.u64 (fun p q => p ||| q) (IntKind.u64.wrap (hi * 2 ^ min (Int.toNat (IntKind.u64.wrap q6_7)) (IntKind.bits IntKind.u64))) (Int.fdiv lo (2 ^ min (Int.toNat (IntKind.u64.wrap ((64 : Int) - (IntKind.u64.wrap q6_7)))) (IntKind.bits IntKind.u64)))) * (4294967296 : Int))) + (Int.fdiv (IntKind.u64.wrap (lo * 2 ^ min (Int.toNat (IntKind.u64.wrap q6_7)) (IntKind.bits IntKind.u64))) (2 ^ min (Int.toNat (32 : Int)) (IntKind.bits IntKind.u64))))) - (IntKind.u64.wrap (z3 * (IntKind.u64.wrap (y_ * 2 ^ min (Int.toNat (IntKind.u64.wrap q6_7)) (IntKind.bits IntKind.u64))))))) - (IntKind.u64.wrap ((IntKind.u64.wrap (Int.tdiv (IntKind.u64.wrap ((IntKind.u64.wrap ((IntKind.u64.wrap ((bitsOf IntKind.u64 (fun p q => p ||| q) (IntKind.u64.wrap (hi * 2 ^ min (Int.toNat (IntKind.u64.wrap q6_7)) (IntKind.bits IntKind.u64))) (Int.fdiv lo (2 ^ min (Int.toNat (IntKind.u64.wrap ((64 : Int) - (IntKind.u64.wrap q6_7)))) (IntKind.bits IntKind.u64)))) * (4294967296 : Int))) + (Int.fdiv (IntKind.u64.wrap (lo * 2 ^ min (Int.toNat (IntKind.u64.wrap q6_7)) (IntKind.bits IntKind.u64))) (2 ^ min (Int.toNat (32 : Int)) (IntKind.bits IntKind.u64))))) - (IntKind.u64.wrap (z3 * (IntKind.u64.wrap (y_ * 2 ^ min (Int.toNat (IntKind.u64.wrap q6_7)) (IntKind.bits IntKind.u64))))))) (Int.fdiv (IntKind.u64.wrap (y_ * 2 ^ min (Int.toNat (IntKind.u64.wrap q6_7)) (IntKind.bits IntKind.u64))) (2 ^ min (Int.toNat (32 : Int)) (IntKind.bits IntKind.u64))))) * (Int.fdiv (IntKind.u64.wrap (y_ * 2 ^ min (Int.toNat (IntKind.u64.wrap q6_7)) (IntKind.bits IntKind.u64))) (2 ^ min (Int.toNat (32 : Int)) (IntKind.bits IntKind.u64))))))), (IntKind.u64.wrap (Int.tdiv (IntKind.u64.wrap ((IntKind.u64.wrap ((IntKind.u64.wrap ((bitsOf IntKind.u64 (fun p q => p ||| q) (IntKind.u64.wrap (hi * 2 ^ min (Int.toNat (IntKind.u64.wrap q6_7)) (IntKind.bits IntKind.u64))) (Int.fdiv lo (2 ^ min (Int.toNat (IntKind.u64.wrap ((64 : Int) - (IntKind.u64.wrap q6_7)))) (IntKind.bits IntKind.u64)))) * (4294967296 : Int))) + (Int.fdiv (IntKind.u64.wrap (lo * 2 ^ min (Int.toNat (IntKind.u64.wrap q6_7)) (IntKind.bits IntKind.u64))) (2 ^ min (Int.toNat (32 : Int)) (IntKind.bits IntKind.u64))))) - (IntKind.u64.wrap (z3 * (IntKind.u64.wrap (y_ * 2 ^ min (Int.toNat (IntKind.u64.wrap q6_7)) (IntKind.bits IntKind.u64))))))) (Int.fdiv (IntKind.u64.wrap (y_ * 2 ^ min (Int.toNat (IntKind.u64.wrap q6_7)) (IntKind.bits IntKind.u64))) (2 ^ min (Int.toNat (32 : Int)) (IntKind.bits IntKind.u64))))))) fun z7 =>
        guardF (0 ≤ (IntKind.u64.wrap q6_7)) <|
        some ((IntKind.u64.wrap ((IntKind.u64.wrap (z3 * (4294967296 : Int))) + z7)), (Int.fdiv (IntKind.u64.wrap ((IntKind.u64.wrap ((IntKind.u64.wrap ((IntKind.u64.wrap ((IntKind.u64.wrap ((IntKind.u64.wrap ((bitsOf IntKind.u64 (fun p q => p ||| q) (IntKind.u64.wrap (hi * 2 ^ min (Int.toNat (IntKind.u64.wrap q6_7)) (IntKind.bits IntKind.u64))) (Int.fdiv lo (2 ^ min (Int.toNat (IntKind.u64.wrap ((64 : Int) - (IntKind.u64.wrap q6_7)))) (IntKind.bits IntKind.u64)))) * (4294967296 : Int))) + (Int.fdiv (IntKind.u64.wrap (lo * 2 ^ min (Int.toNat (IntKind.u64.wrap q6_7)) (IntKind.bits IntKind.u64))) (2 ^ min (Int.toNat (32 : Int)) (IntKind.bits IntKind.u64))))) - (IntKind.u64.wrap (z3 * (IntKind.u64.wrap (y_ * 2 ^ min (Int.toNat (IntKind.u64.wrap q6_7)) (IntKind.bits IntKind.u64))))))) * (4294967296 : Int))) + (bitsOf IntKind.u64 (fun p q => p &&& q) (IntKind.u64.wrap (lo * 2 ^ min (Int.toNat (IntKind.u64.wrap q6_7)) (IntKind.bits IntKind.u64))) (4294967295 : Int)))) - (IntKind.u64.wrap (z7 * (IntKind.u64.wrap (y_ * 2 ^ min (Int.toNat (IntKind.u64.wrap q6_7)) (IntKind.bits IntKind.u64))))))) (2 ^ min (Int.toNat (IntKind.u64.wrap q6_7)) (IntKind.bits IntKind.u64))))
def C85 : Con where
  X := Int × Int × Int
  Y := Int × Int
  e := 0
  args x := [.dat (.int .u64) x.1, .dat (.int .u64) x.2.1, .dat (.int .u64) x.2.2]
  hin x := []
  F x := f85 x.1 x.2.1 x.2.2
  ret y := [.dat (.int .u64) y.1, .dat (.int .u64) y.2]
  hout y := []
  nout := 0
theorem C85_vc (hi : Int) (lo : Int) (y_ : Int) (y : Int × Int) (hF : f85 hi lo y_ = some y) : vc Try.prog tab Try.f85.ntmps 0 (match Try.f85.body with | some c => c | none => .skip) (retK tab C85 Try.f85.results.toList y) (C85.shIn (hi, lo, y_)).st := by
  unfold f85 at hF
  refine Or.inl ?_
  refine Or.inl ?_
  refine Or.inl ?_
  refine condI hF (fun hF => ?_) (fun hF => ?_)
  · exact nomatch hF
  · refine Or.inl ?_
    refine Or.inl ?_
    refine condI hF (fun hF => ?_) (fun hF => ?_)
    · exact nomatch hF
    · refine Or.inl ?_
      refine Or.inl ?_
      refine condI hF (fun hF => ?_) (fun hF => ?_)
      · refine Or.inl ?_
        refine Exists.intro (.take 0 (.take 1 (.take 2 (.take 3 (.take 4 (.take 5 (.take 6 (.take 7 .done)))))))) (Exists.intro [] (And.intro rfl ?_))
        refine guardI hF (fun hF => ?_)
        refine guardI hF (fun hF => ?_)
        have hy := someE hF
        subst hy
        refine And.intro rfl (Exists.intro [] (Exists.intro [] (And.intro rfl (And.intro rfl (And.intro rfl (And.intro trivial trivial))))))
      · refine Or.inl ?_
        obtain ⟨q6_7, hq6_7, hF⟩ := bindE hF
        refine Or.inl (And.intro f103_in (callI C103 y_ q6_7 [] false C103_holds hq6_7 rfl rfl ?_))
        refine (And.intro rfl (And.intro (fun h => nomatch h) (And.intro rfl (And.intro rfl (And.intro trivial (And.intro trivial ?_))))))
        refine Or.inl ?_
        refine guardI hF (fun hF => ?_)
        refine Or.inl ?_
        refine And.intro (by decide) ?_
        refine Or.inl ?_
        refine Or.inl ?_
        refine guardI hF (fun hF => ?_)
        refine guardI hF (fun hF => ?_)
        refine Or.inl ?_
        refine guardI hF (fun hF => ?_)
        refine Or.inl ?_
        refine And.intro (by decide) ?_
        refine Or.inl ?_
        refine Or.inl ?_
        refine guardI hF (fun hF => ?_)
        refine Or.inl ?_
        refine Or.inl ?_
        obtain ⟨z3, hz3, hF⟩ := bindE hF
        refine loopI (Int × Int) Int (fun x => ⟨[(2, .dat (.int .u64) (IntKind.u64.wrap (y_ * 2 ^ min (Int.toNat (IntKind.u64.wrap q6_7)) (IntKind.bits IntKind.u64)))), (8, .dat (.int .u64) (IntKind.u64.wrap q6_7)), (9, .dat (.int .u64) (Int.fdiv (IntKind.u64.wrap (y_ * 2 ^ min (Int.toNat (IntKind.u64.wrap q6_7)) (IntKind.bits IntKind.u64))) (2 ^ min (Int.toNat (32 : Int)) (IntKind.bits IntKind.u64)))), (10, .dat (.int .u64) (bitsOf IntKind.u64 (fun p q => p &&& q) (IntKind.u64.wrap (y_ * 2 ^ min (Int.toNat (IntKind.u64.wrap q6_7)) (IntKind.bits IntKind.u64))) (4294967295 : Int))), (11, .dat (.int .u64) (bitsOf IntKind.u64 (fun p q => p ||| q) (IntKind.u64.wrap (hi * 2 ^ min (Int.toNat (IntKind.u64.wrap q6_7)) (IntKind.bits IntKind.u64))) (Int.fdiv lo (2 ^ min (Int.toNat (IntKind.u64.wrap ((64 : Int) - (IntKind.u64.wrap q6_7)))) (IntKind.bits IntKind.u64))))), (13, .dat (.int .u64) (Int.fdiv (IntKind.u64.wrap (lo * 2 ^ min (Int.toNat (IntKind.u64.wrap q6_7)) (IntKind.bits IntKind.u64))) (2 ^ min (Int.toNat (32 : Int)) (IntKind.bits IntKind.u64)))), (14, .dat (.int .u64) (bitsOf IntKind.u64 (fun p q => p &&& q) (IntKind.u64.wrap (lo * 2 ^ min (Int.toNat (IntKind.u64.wrap q6_7)) (IntKind.bits IntKind.u64))) (4294967295 : Int))), (15, .dat (.int .u64) x.1), (16, .dat (.int .u64) x.2)], [], 0⟩) (fun z => [(2, ⟨[(2, .dat (.int .u64) (IntKind.u64.wrap (y_ * 2 ^ min (Int.toNat (IntKind.u64.wrap q6_7)) (IntKind.bits IntKind.u64)))), (8, .dat (.int .u64) (IntKind.u64.wrap q6_7)), (9, .dat (.int .u64) (Int.fdiv (IntKind.u64.wrap (y_ * 2 ^ min (Int.toNat (IntKind.u64.wrap q6_7)) (IntKind.bits IntKind.u64))) (2 ^ min (Int.toNat (32 : Int)) (IntKind.bits IntKind.u64)))), (10, .dat (.int .u64) (bitsOf IntKind.u64 (fun p q => p &&& q) (IntKind.u64.wrap (y_ * 2 ^ min (Int.toNat (IntKind.u64.wrap q6_7)) (IntKind.bits IntKind.u64))) (4294967295 : Int))), (11, .dat (.int .u64) (bitsOf IntKind.u64 (fun p q => p ||| q) (IntKind.u64.wrap (hi * 2 ^ min (Int.toNat (IntKind.u64.wrap q6_7)) (IntKind.bits IntKind.u64))) (Int.fdiv lo (2 ^ min (Int.toNat (IntKind.u64.wrap ((64 : Int) - (IntKind.u64.wrap q6_7)))) (IntKind.bits IntKind.u64))))), (13, .dat (.int .u64) (Int.fdiv (IntKind.u64.wrap (lo * 2 ^ min (Int.toNat (IntKind.u64.wrap q6_7)) (IntKind.bits IntKind.u64))) (2 ^ min (Int.toNat (32 : Int)) (IntKind.bits IntKind.u64)))), (14, .dat (.int .u64) (bitsOf IntKind.u64 (fun p q => p &&& q) (IntKind.u64.wrap (lo * 2 ^ min (Int.toNat (IntKind.u64.wrap q6_7)) (IntKind.bits IntKind.u64))) (4294967295 : Int))), (15, .dat (.int .u64) z)], [], 0⟩)]) (loopF (fun go x => f85_l3 lo y_ q6_7 go x.1 x.2)) fuelN ((IntKind.u64.wrap (Int.tdiv (bitsOf IntKind.u64 (fun p q => p ||| q) (IntKind.u64.wrap (hi * 2 ^ min (Int.toNat (IntKind.u64.wrap q6_7)) (IntKind.bits IntKind.u64))) (Int.fdiv lo (2 ^ min (Int.toNat (IntKind.u64.wrap ((64 : Int) - (IntKind.u64.wrap q6_7)))) (IntKind.bits IntKind.u64)))) (Int.fdiv (IntKind.u64.wrap (y_ * 2 ^ min (Int.toNat (IntKind.u64.wrap q6_7)) (IntKind.bits IntKind.u64))) (2 ^ min (Int.toNat (32 : Int)) (IntKind.bits IntKind.u64))))), (IntKind.u64.wrap ((bitsOf IntKind.u64 (fun p q => p ||| q) (IntKind.u64.wrap (hi * 2 ^ min (Int.toNat (IntKind.u64.wrap q6_7)) (IntKind.bits IntKind.u64))) (Int.fdiv lo (2 ^ min (Int.toNat (IntKind.u64.wrap ((64 : Int) - (IntKind.u64.wrap q6_7)))) (IntKind.bits IntKind.u64)))) - (IntKind.u64.wrap ((IntKind.u64.wrap (Int.tdiv (bitsOf IntKind.u64 (fun p q => p ||| q) (IntKind.u64.wrap (hi * 2 ^ min (Int.toNat (IntKind.u64.wrap q6_7)) (IntKind.bits IntKind.u64))) (Int.fdiv lo (2 ^ min (Int.toNat (IntKind.u64.wrap ((64 : Int) - (IntKind.u64.wrap q6_7)))) (IntKind.bits IntKind.u64)))) (Int.fdiv (IntKind.u64.wrap (y_ * 2 ^ min (Int.toNat (IntKind.u64.wrap q6_7)) (IntKind.bits IntKind.u64))) (2 ^ min (Int.toNat (32 : Int)) (IntKind.bits IntKind.u64))))) * (Int.fdiv (IntKind.u64.wrap (y_ * 2 ^ min (Int.toNat (IntKind.u64.wrap q6_7)) (IntKind.bits IntKind.u64))) (2 ^ min (Int.toNat (32 : Int)) (IntKind.bits IntKind.u64)))))))) z3 (And.intro hz3 (And.intro (Exists.intro [] (Exists.intro [] (And.intro rfl (And.intro rfl (And.intro rfl (And.intro rfl (And.intro rfl (And.intro rfl (And.intro rfl (And.intro rfl (And.intro rfl (And.intro rfl (And.intro trivial trivial))))))))))))) (And.intro (fun _ _ h => loopZ h) (And.intro (fun m => curI (fun q1 => fun rhat z hF => ?_)) ?_))))
        · have hF : f85_l3 lo y_ q6_7 (loopF (fun go x => f85_l3 lo y_ q6_7 go x.1 x.2) m) q1 rhat = some z := hF
          unfold f85_l3 at hF
          obtain ⟨z4, hz4, hF⟩ := bindE hF
          refine Or.inr ⟨Sum.elim (fun z4a => [(0, ⟨[(2, .dat (.int .u64) (IntKind.u64.wrap (y_ * 2 ^ min (Int.toNat (IntKind.u64.wrap q6_7)) (IntKind.bits IntKind.u64)))), (8, .dat (.int .u64) (IntKind.u64.wrap q6_7)), (9, .dat (.int .u64) (Int.fdiv (IntKind.u64.wrap (y_ * 2 ^ min (Int.toNat (IntKind.u64.wrap q6_7)) (IntKind.bits IntKind.u64))) (2 ^ min (Int.toNat (32 : Int)) (IntKind.bits IntKind.u64)))), (10, .dat (.int .u64) (bitsOf IntKind.u64 (fun p q => p &&& q) (IntKind.u64.wrap (y_ * 2 ^ min (Int.toNat (IntKind.u64.wrap q6_7)) (IntKind.bits IntKind.u64))) (4294967295 : Int))), (11, .dat (.int .u64) (bitsOf IntKind.u64 (fun p q => p ||| q) (IntKind.u64.wrap (hi * 2 ^ min (Int.toNat (IntKind.u64.wrap q6_7)) (IntKind.bits IntKind.u64))) (Int.fdiv lo (2 ^ min (Int.toNat (IntKind.u64.wrap ((64 : Int) - (IntKind.u64.wrap q6_7)))) (IntKind.bits IntKind.u64))))), (13, .dat (.int .u64) (Int.fdiv (IntKind.u64.wrap (lo * 2 ^ min (Int.toNat (IntKind.u64.wrap q6_7)) (IntKind.bits IntKind.u64))) (2 ^ min (Int.toNat (32 : Int)) (IntKind.bits IntKind.u64)))), (14, .dat (.int .u64) (bitsOf IntKind.u64 (fun p q => p &&& q) (IntKind.u64.wrap (lo * 2 ^ min (Int.toNat (IntKind.u64.wrap q6_7)) (IntKind.bits IntKind.u64))) (4294967295 : Int))), (15, .dat (.int .u64) q1), (16, .dat (.int .u64) rhat)], [], 0⟩)]) (fun z4b => [(2, ⟨[(2, .dat (.int .u64) (IntKind.u64.wrap (y_ * 2 ^ min (Int.toNat (IntKind.u64.wrap q6_7)) (IntKind.bits IntKind.u64)))), (8, .dat (.int .u64) (IntKind.u64.wrap q6_7)), (9, .dat (.int .u64) (Int.fdiv (IntKind.u64.wrap (y_ * 2 ^ min (Int.toNat (IntKind.u64.wrap q6_7)) (IntKind.bits IntKind.u64))) (2 ^ min (Int.toNat (32 : Int)) (IntKind.bits IntKind.u64)))), (10, .dat (.int .u64) (bitsOf IntKind.u64 (fun p q => p &&& q) (IntKind.u64.wrap (y_ * 2 ^ min (Int.toNat (IntKind.u64.wrap q6_7)) (IntKind.bits IntKind.u64))) (4294967295 : Int))), (11, .dat (.int .u64) (bitsOf IntKind.u64 (fun p q => p ||| q) (IntKind.u64.wrap (hi * 2 ^ min (Int.toNat (IntKind.u64.wrap q6_7)) (IntKind.bits IntKind.u64))) (Int.fdiv lo (2 ^ min (Int.toNat (IntKind.u64.wrap ((64 : Int) - (IntKind.u64.wrap q6_7)))) (IntKind.bits IntKind.u64))))), (13, .dat (.int .u64) (Int.fdiv (IntKind.u64.wrap (lo * 2 ^ min (Int.toNat (IntKind.u64.wrap q6_7)) (IntKind.bits IntKind.u64))) (2 ^ min (Int.toNat (32 : Int)) (IntKind.bits IntKind.u64)))), (14, .dat (.int .u64) (bitsOf IntKind.u64 (fun p q => p &&& q) (IntKind.u64.wrap (lo * 2 ^ min (Int.toNat (IntKind.u64.wrap q6_7)) (IntKind.bits IntKind.u64))) (4294967295 : Int))), (15, .dat (.int .u64) q1)], [], 0⟩)]) z4, ?_, ?_⟩
          · have hF := hz4
            clear hz4
            unfold f85_j4 at hF
            refine Or.inl ?_
            refine condN hF (fun hF => ?_) (fun hF => ?_)
            · refine gdYF ?_
              refine gdYF ?_
              refine gdYF ?_
              refine gdYF ?_
              refine gdYF ?_
              refine gdYF ?_
              refine gdYF ?_
              refine condF ?_
              refine condI hF (fun hF => ?_) (fun hF => ?_)
              · have hz := someE hF
                subst hz
                refine Exists.intro [] (Exists.intro [] (And.intro rfl (And.intro rfl (And.intro rfl (And.intro rfl (And.intro rfl (And.intro rfl (And.intro rfl (And.intro rfl (And.intro rfl (And.intro rfl (And.intro trivial trivial))))))))))))
              · have hz := someE hF
                subst hz
                refine Exists.intro [] (Exists.intro [] (And.intro rfl (And.intro rfl (And.intro rfl (And.intro rfl (And.intro rfl (And.intro rfl (And.intro rfl (And.intro rfl (And.intro rfl (And.intro trivial trivial)))))))))))
            · refine gdNF ?_
              refine gdNF ?_
              refine gdNF ?_
              refine gdNF ?_
              refine gdNF ?_
              refine gdNF ?_
              refine gdNF ?_
              refine condT ?_
              refine condT ?_
              have hz := someE hF
              subst hz
              refine Exists.intro [] (Exists.intro [] (And.intro rfl (And.intro rfl (And.intro rfl (And.intro rfl (And.intro rfl (And.intro rfl (And.intro rfl (And.intro rfl (And.intro rfl (And.intro rfl (And.intro trivial trivial))))))))))))
          · rcases z4 with z4a | z4b
            · dsimp only [sumF] at hF
              refine And.intro ?_ trivial
              refine Or.inl ?_
              refine Or.inl ?_
              refine Or.inl ?_
              refine condI hF (fun hF => ?_) (fun hF => ?_)
              · have hz := someE hF
                subst hz
                refine Exists.intro [] (Exists.intro [] (And.intro rfl (And.intro rfl (And.intro rfl (And.intro rfl (And.intro rfl (And.intro rfl (And.intro rfl (And.intro rfl (And.intro rfl (And.intro trivial trivial)))))))))))
              · refine Exists.intro ((IntKind.u64.wrap (q1 - (1 : Int))), (IntKind.u64.wrap (rhat + (Int.fdiv (IntKind.u64.wrap (y_ * 2 ^ min (Int.toNat (IntKind.u64.wrap q6_7)) (IntKind.bits IntKind.u64))) (2 ^ min (Int.toNat (32 : Int)) (IntKind.bits IntKind.u64)))))) (And.intro hF (Exists.intro [] (Exists.intro [] (And.intro rfl (And.intro rfl (And.intro rfl (And.intro rfl (And.intro rfl (And.intro rfl (And.intro rfl (And.intro rfl (And.intro rfl (And.intro rfl (And.intro trivial trivial))))))))))))))
            · dsimp only [sumF] at hF
              refine And.intro ?_ trivial
              have hz := someE hF
              subst hz
              refine Exists.intro [] (Exists.intro [] (And.intro rfl (And.intro rfl (And.intro rfl (And.intro rfl (And.intro rfl (And.intro rfl (And.intro rfl (And.intro rfl (And.intro rfl (And.intro trivial trivial)))))))))))
        · refine And.intro ?_ trivial
          refine Or.inl ?_
          refine Or.inl ?_
          refine guardI hF (fun hF => ?_)
          refine Or.inl ?_
          refine Or.inl ?_
          obtain ⟨z7, hz7, hF⟩ := bindE hF
          refine loopI (Int × Int) Int (fun x => ⟨[(2, .dat (.int .u64) (IntKind.u64.wrap (y_ * 2 ^ min (Int.toNat (IntKind.u64.wrap q6_7)) (IntKind.bits IntKind.u64)))), (8, .dat (.int .u64) (IntKind.u64.wrap q6_7)), (9, .dat (.int .u64) (Int.fdiv (IntKind.u64.wrap (y_ * 2 ^ min (Int.toNat (IntKind.u64.wrap q6_7)) (IntKind.bits IntKind.u64))) (2 ^ min (Int.toNat (32 : Int)) (IntKind.bits IntKind.u64)))), (10, .dat (.int .u64) (bitsOf IntKind.u64 (fun p q => p &&& q) (IntKind.u64.wrap (y_ * 2 ^ min (Int.toNat (IntKind.u64.wrap q6_7)) (IntKind.bits IntKind.u64))) (4294967295 : Int))), (14, .dat (.int .u64) (bitsOf IntKind.u64 (fun p q => p &&& q) (IntKind.u64.wrap (lo * 2 ^ min (Int.toNat (IntKind.u64.wrap q6_7)) (IntKind.bits IntKind.u64))) (4294967295 : Int))), (15, .dat (.int .u64) z3), (16, .dat (.int .u64) x.1), (17, .dat (.int .u64) (IntKind.u64.wrap ((IntKind.u64.wrap ((IntKind.u64.wrap ((bitsOf IntKind.u64 (fun p q => p ||| q) (IntKind.u64.wrap (hi * 2 ^ min (Int.toNat (IntKind.u64.wrap q6_7)) (IntKind.bits IntKind.u64))) (Int.fdiv lo (2 ^ min (Int.toNat (IntKind.u64.wrap ((64 : Int) - (IntKind.u64.wrap q6_7)))) (IntKind.bits IntKind.u64)))) * (4294967296 : Int))) + (Int.fdiv (IntKind.u64.wrap (lo * 2 ^ min (Int.toNat (IntKind.u64.wrap q6_7)) (IntKind.bits IntKind.u64))) (2 ^ min (Int.toNat (32 : Int)) (IntKind.bits IntKind.u64))))) - (IntKind.u64.wrap (z3 * (IntKind.u64.wrap (y_ * 2 ^ min (Int.toNat (IntKind.u64.wrap q6_7)) (IntKind.bits IntKind.u64)))))))), (18, .dat (.int .u64) x.2)], [], 0⟩) (fun z => [(4, ⟨[(2, .dat (.int .u64) (IntKind.u64.wrap (y_ * 2 ^ min (Int.toNat (IntKind.u64.wrap q6_7)) (IntKind.bits IntKind.u64)))), (8, .dat (.int .u64) (IntKind.u64.wrap q6_7)), (14, .dat (.int .u64) (bitsOf IntKind.u64 (fun p q => p &&& q) (IntKind.u64.wrap (lo * 2 ^ min (Int.toNat (IntKind.u64.wrap q6_7)) (IntKind.bits IntKind.u64))) (4294967295 : Int))), (15, .dat (.int .u64) z3), (17, .dat (.int .u64) (IntKind.u64.wrap ((IntKind.u64.wrap ((IntKind.u64.wrap ((bitsOf IntKind.u64 (fun p q => p ||| q) (IntKind.u64.wrap (hi * 2 ^ min (Int.toNat (IntKind.u64.wrap q6_7)) (IntKind.bits IntKind.u64))) (Int.fdiv lo (2 ^ min (Int.toNat (IntKind.u64.wrap ((64 : Int) - (IntKind.u64.wrap q6_7)))) (IntKind.bits IntKind.u64)))) * (4294967296 : Int))) + (Int.fdiv (IntKind.u64.wrap (lo * 2 ^ min (Int.toNat (IntKind.u64.wrap q6_7)) (IntKind.bits IntKind.u64))) (2 ^ min (Int.toNat (32 : Int)) (IntKind.bits IntKind.u64))))) - (IntKind.u64.wrap (z3 * (IntKind.u64.wrap (y_ * 2 ^ min (Int.toNat (IntKind.u64.wrap q6_7)) (IntKind.bits IntKind.u64)))))))), (18, .dat (.int .u64) z)], [], 0⟩)]) (loopF (fun go x => f85_l7 lo y_ q6_7 go x.1 x.2)) fuelN ((IntKind.u64.wrap ((IntKind.u64.wrap ((IntKind.u64.wrap ((IntKind.u64.wrap ((bitsOf IntKind.u64 (fun p q => p ||| q) (IntKind.u64.wrap (hi * 2 ^ min (Int.toNat (IntKind.u64.wrap q6_7)) (IntKind.bits IntKind.u64))) (Int.fdiv lo (2 ^ min (Int.toNat (IntKind.u64.wrap ((64 : Int) - (IntKind.u64.wrap q6_7)))) (IntKind.bits IntKind.u64)))) * (4294967296 : Int))) + (Int.fdiv (IntKind.u64.wrap (lo * 2 ^ min (Int.toNat (IntKind.u64.wrap q6_7)) (IntKind.bits IntKind.u64))) (2 ^ min (Int.toNat (32 : Int)) (IntKind.bits IntKind.u64))))) - (IntKind.u64.wrap (z3 * (IntKind.u64.wrap (y_ * 2 ^ min (Int.toNat (IntKind.u64.wrap q6_7)) (IntKind.bits IntKind.u64))))))) - (IntKind.u64.wrap ((IntKind.u64.wrap (Int.tdiv (IntKind.u64.wrap ((IntKind.u64.wrap ((IntKind.u64.wrap ((bitsOf IntKind.u64 (fun p q => p ||| q) (IntKind.u64.wrap (hi * 2 ^ min (Int.toNat (IntKind.u64.wrap q6_7)) (IntKind.bits IntKind.u64))) (Int.fdiv lo (2 ^ min (Int.toNat (IntKind.u64.wrap ((64 : Int) - (IntKind.u64.wrap q6_7)))) (IntKind.bits IntKind.u64)))) * (4294967296 : Int))) + (Int.fdiv (IntKind.u64.wrap (lo * 2 ^ min (Int.toNat (IntKind.u64.wrap q6_7)) (IntKind.bits IntKind.u64))) (2 ^ min (Int.toNat (32 : Int)) (IntKind.bits IntKind.u64))))) - (IntKind.u64.wrap (z3 * (IntKind.u64.wrap (y_ * 2 ^ min (Int.toNat (IntKind.u64.wrap q6_7)) (IntKind.bits IntKind.u64))))))) (Int.fdiv (IntKind.u64.wrap (y_ * 2 ^ min (Int.toNat (IntKind.u64.wrap q6_7)) (IntKind.bits IntKind.u64))) (2 ^ min (Int.toNat (32 : Int)) (IntKind.bits IntKind.u64))))) * (Int.fdiv (IntKind.u64.wrap (y_ * 2 ^ min (Int.toNat (IntKind.u64.wrap q6_7)) (IntKind.bits IntKind.u64))) (2 ^ min (Int.toNat (32 : Int)) (IntKind.bits IntKind.u64))))))), (IntKind.u64.wrap (Int.tdiv (IntKind.u64.wrap ((IntKind.u64.wrap ((IntKind.u64.wrap ((bitsOf IntKind.u64 (fun p q => p ||| q) (IntKind.u64.wrap (hi * 2 ^ min (Int.toNat (IntKind.u64.wrap q6_7)) (IntKind.bits IntKind.u64))) (Int.fdiv lo (2 ^ min (Int.toNat (IntKind.u64.wrap ((64 : Int) - (IntKind.u64.wrap q6_7)))) (IntKind.bits IntKind.u64)))) * (4294967296 : Int))) + (Int.fdiv (IntKind.u64.wrap (lo * 2 ^ min (Int.toNat (IntKind.u64.wrap q6_7)) (IntKind.bits IntKind.u64))) (2 ^ min (Int.toNat (32 : Int)) (IntKind.bits IntKind.u64))))) - (IntKind.u64.wrap (z3 * (IntKind.u64.wrap (y_ * 2 ^ min (Int.toNat (IntKind.u64.wrap q6_7)) (IntKind.bits IntKind.u64))))))) (Int.fdiv (IntKind.u64.wrap (y_ * 2 ^ min (Int.toNat (IntKind.u64.wrap q6_7)) (IntKind.bits IntKind.u64))) (2 ^ min (Int.toNat (32 : Int)) (IntKind.bits IntKind.u64)))))) z7 (And.intro hz7 (And.intro (Exists.intro [] (Exists.intro [] (And.intro rfl (And.intro rfl (And.intro rfl (And.intro rfl (And.intro rfl (And.intro rfl (And.intro rfl (And.intro rfl (And.intro rfl (And.intro rfl (And.intro trivial trivial))))))))))))) (And.intro (fun _ _ h => loopZ h) (And.intro (fun m => curI (fun rhat => fun q0 z hF => ?_)) ?_))))
          · have hF : f85_l7 lo y_ q6_7 (loopF (fun go x => f85_l7 lo y_ q6_7 go x.1 x.2) m) rhat q0 = some z := hF
            unfold f85_l7 at hF
            obtain ⟨z8, hz8, hF⟩ := bindE hF
            refine Or.inr ⟨Sum.elim (fun z8a => [(0, ⟨[(2, .dat (.int .u64) (IntKind.u64.wrap (y_ * 2 ^ min (Int.toNat (IntKind.u64.wrap q6_7)) (IntKind.bits IntKind.u64)))), (8, .dat (.int .u64) (IntKind.u64.wrap q6_7)), (9, .dat (.int .u64) (Int.fdiv (IntKind.u64.wrap (y_ * 2 ^ min (Int.toNat (IntKind.u64.wrap q6_7)) (IntKind.bits IntKind.u64))) (2 ^ min (Int.toNat (32 : Int)) (IntKind.bits IntKind.u64)))), (10, .dat (.int .u64) (bitsOf IntKind.u64 (fun p q => p &&& q) (IntKind.u64.wrap (y_ * 2 ^ min (Int.toNat (IntKind.u64.wrap q6_7)) (IntKind.bits IntKind.u64))) (4294967295 : Int))), (14, .dat (.int .u64) (bitsOf IntKind.u64 (fun p q => p &&& q) (IntKind.u64.wrap (lo * 2 ^ min (Int.toNat (IntKind.u64.wrap q6_7)) (IntKind.bits IntKind.u64))) (4294967295 : Int))), (15, .dat (.int .u64) z3), (16, .dat (.int .u64) rhat), (17, .dat (.int .u64) (IntKind.u64.wrap ((IntKind.u64.wrap ((IntKind.u64.wrap ((bitsOf IntKind.u64 (fun p q => p ||| q) (IntKind.u64.wrap (hi * 2 ^ min (Int.toNat (IntKind.u64.wrap q6_7)) (IntKind.bits IntKind.u64))) (Int.fdiv lo (2 ^ min (Int.toNat (IntKind.u64.wrap ((64 : Int) - (IntKind.u64.wrap q6_7)))) (IntKind.bits IntKind.u64)))) * (4294967296 : Int))) + (Int.fdiv (IntKind.u64.wrap (lo * 2 ^ min (Int.toNat (IntKind.u64.wrap q6_7)) (IntKind.bits IntKind.u64))) (2 ^ min (Int.toNat (32 : Int)) (IntKind.bits IntKind.u64))))) - (IntKind.u64.wrap (z3 * (IntKind.u64.wrap (y_ * 2 ^ min (Int.toNat (IntKind.u64.wrap q6_7)) (IntKind.bits IntKind.u64)))))))), (18, .dat (.int .u64) q0)], [], 0⟩)]) (fun z8b => [(4, ⟨[(2, .dat (.int .u64) (IntKind.u64.wrap (y_ * 2 ^ min (Int.toNat (IntKind.u64.wrap q6_7)) (IntKind.bits IntKind.u64)))), (8, .dat (.int .u64) (IntKind.u64.wrap q6_7)), (14, .dat (.int .u64) (bitsOf IntKind.u64 (fun p q => p &&& q) (IntKind.u64.wrap (lo * 2 ^ min (Int.toNat (IntKind.u64.wrap q6_7)) (IntKind.bits IntKind.u64))) (4294967295 : Int))), (15, .dat (.int .u64) z3), (17, .dat (.int .u64) (IntKind.u64.wrap ((IntKind.u64.wrap ((IntKind.u64.wrap ((bitsOf IntKind.u64 (fun p q => p ||| q) (IntKind.u64.wrap (hi * 2 ^ min (Int.toNat (IntKind.u64.wrap q6_7)) (IntKind.bits IntKind.u64))) (Int.fdiv lo (2 ^ min (Int.toNat (IntKind.u64.wrap ((64 : Int) - (IntKind.u64.wrap q6_7)))) (IntKind.bits IntKind.u64)))) * (4294967296 : Int))) + (Int.fdiv (IntKind.u64.wrap (lo * 2 ^ min (Int.toNat (IntKind.u64.wrap q6_7)) (IntKind.bits IntKind.u64))) (2 ^ min (Int.toNat (32 : Int)) (IntKind.bits IntKind.u64))))) - (IntKind.u64.wrap (z3 * (IntKind.u64.wrap (y_ * 2 ^ min (Int.toNat (IntKind.u64.wrap q6_7)) (IntKind.bits IntKind.u64)))))))), (18, .dat (.int .u64) q0)], [], 0⟩)]) z8, ?_, ?_⟩
            · have hF := hz8
              clear hz8
              unfold f85_j8 at hF
              refine Or.inl ?_
              refine condN hF (fun hF => ?_) (fun hF => ?_)
              · refine gdYF ?_
                refine gdYF ?_
                refine gdYF ?_
                refine gdYF ?_
                refine gdYF ?_
                refine gdYF ?_
                refine gdYF ?_
                refine condF ?_
                refine condI hF (fun hF => ?_) (fun hF => ?_)
                · have hz := someE hF
                  subst hz
                  refine Exists.intro [] (Exists.intro [] (And.intro rfl (And.intro rfl (And.intro rfl (And.intro rfl (And.intro rfl (And.intro rfl (And.intro rfl (And.intro rfl (And.intro rfl (And.intro rfl (And.intro trivial trivial))))))))))))
                · have hz := someE hF
                  subst hz
                  refine Exists.intro [] (Exists.intro [] (And.intro rfl (And.intro rfl (And.intro rfl (And.intro rfl (And.intro rfl (And.intro rfl (And.intro rfl (And.intro trivial trivial)))))))))
              · refine gdNF ?_
                refine gdNF ?_
                refine gdNF ?_
                refine gdNF ?_
                refine gdNF ?_
                refine gdNF ?_
                refine gdNF ?_
                refine condT ?_
                refine condT ?_
                have hz := someE hF
                subst hz
                refine Exists.intro [] (Exists.intro [] (And.intro rfl (And.intro rfl (And.intro rfl (And.intro rfl (And.intro rfl (And.intro rfl (And.intro rfl (And.intro rfl (And.intro rfl (And.intro rfl (And.intro trivial trivial))))))))))))
            · rcases z8 with z8a | z8b
              · dsimp only [sumF] at hF
                refine And.intro ?_ trivial
                refine Or.inl ?_
                refine Or.inl ?_
                refine Or.inl ?_
                refine condI hF (fun hF => ?_) (fun hF => ?_)
                · have hz := someE hF
                  subst hz
                  refine Exists.intro [] (Exists.intro [] (And.intro rfl (And.intro rfl (And.intro rfl (And.intro rfl (And.intro rfl (And.intro rfl (And.intro rfl (And.intro trivial trivial)))))))))
                · refine Exists.intro ((IntKind.u64.wrap (rhat + (Int.fdiv (IntKind.u64.wrap (y_ * 2 ^ min (Int.toNat (IntKind.u64.wrap q6_7)) (IntKind.bits IntKind.u64))) (2 ^ min (Int.toNat (32 : Int)) (IntKind.bits IntKind.u64))))), (IntKind.u64.wrap (q0 - (1 : Int)))) (And.intro hF (Exists.intro [] (Exists.intro [] (And.intro rfl (And.intro rfl (And.intro rfl (And.intro rfl (And.intro rfl (And.intro rfl (And.intro rfl (And.intro rfl (And.intro rfl (And.intro rfl (And.intro trivial trivial))))))))))))))
              · dsimp only [sumF] at hF
                refine And.intro ?_ trivial
                have hz := someE hF
                subst hz
                refine Exists.intro [] (Exists.intro [] (And.intro rfl (And.intro rfl (And.intro rfl (And.intro rfl (And.intro rfl (And.intro rfl (And.intro rfl (And.intro trivial trivial)))))))))
          · refine And.intro ?_ trivial
            refine Or.inl ?_
            refine guardI hF (fun hF => ?_)
            have hy := someE hF
            subst hy
            refine And.intro rfl (Exists.intro [] (Exists.intro [] (And.intro rfl (And.intro rfl (And.intro rfl (And.intro trivial trivial))))))
theorem C85_holds : C85.Holds Try.prog 85 := holds_of_vc tab_ok mixed (fn := Try.f85) (by kernel_rfl) rfl C85 (fun x y hF => C85_vc x.1 x.2.1 x.2.2 y hF)
theorem f85_in : ∃ fn, Try.prog.funcs[85]? = some fn ∧ fn.body.isSome = true ∧ (fn.name == "runtime.NumGoroutine") = false := ⟨Try.f85, by kernel_rfl, by kernel_rfl, by kernel_rfl⟩
end Go.Proofs
namespace Go.Proofs
open Go.AM
-- carousel/fix.Div
def f81_j3 (r2 : Int) (r4 : Int × Int) : Option Bool :=
  bif (decide (r4.2 > (IntKind.u64.wrap (r2 - r4.2)))) then
    some true
  else
    bif (r4.2 == (IntKind.u64.wrap (r2 - r4.2))) then
      some ((bitsOf IntKind.u64 (fun p q => p &&& q) r4.1 (1 : Int)) == (1 : Int))
    else
      some false
def f81_j2 (r2 : Int) (r4 : Int × Int) : Option (Int × Int) :=
  bindF (f81_j3 r2 r4) fun z8 =>
  bif z8 then
    bindF (add64 r4.1 (1 : Int) (0 : Int)) fun r9 =>
    some (r9.1, r9.2)
  else
    some (r4.1, (0 : Int))
def f81 (a : Int) (b : Int) : Option Int :=
  bif (b == (0 : Int)) then
    bif (decide (a > (0 : Int))) then
      some (9223372036854775807 : Int)
    else
      bif (decide (a < (0 : Int))) then
        some (-9223372036854775808 : Int)
      else
        some (0 : Int)
  else
    bindF (f98 a) fun r1 =>
    bindF (f98 b) fun r2 =>
    bif (decide ((Int.fdiv r1 (2 ^ min (Int.toNat (32 : Int)) (IntKind.bits IntKind.u64))) ≥ r2)) then
      bindF (f99 (1 : Int) (0 : Int) (!((decide (a < (0 : Int))) == (decide (b < (0 : Int)))))) fun r3 =>
      some r3
    else
      bindF (f85 (Int.fdiv r1 (2 ^ min (Int.toNat (32 : Int)) (IntKind.bits IntKind.u64))) (IntKind.u64.wrap (r1 * 2 ^ min (Int.toNat (32 : Int)) (IntKind.bits IntKind.u64))) r2) fun r4 =>
      bindF (f81_j2 r2 r4) fun z7 =>
      bindF (f99 z7.2 z7.1 (!((decide (a < (0 : Int))) == (decide (b < (0 : Int)))))) fun r10 =>
      some r10
def C81 : Con where
  X := Int × Int
  Y := Int
  e := 0
  args x := [.dat (.int .i64) x.1, .dat (.int .i64) x.2]
  hin x := []
  F x := f81 x.1 x.2
  ret y := [.dat (.int .i64) y]
  hout y := []
  nout := 0
theorem C81_vc (a : Int) (b : Int) (y : Int) (hF : f81 a b = some y) : vc Try.prog tab Try.f81.ntmps 0 (match Try.f81.body with | some c => c | none => .skip) (retK tab C81 Try.f81.results.toList y) (C81.shIn (a, b)).st := by
  unfold f81 at hF
  refine Or.inl ?_
  refine Or.inl ?_
  refine Or.inl ?_
  refine condI hF (fun hF => ?_) (fun hF => ?_)
  · refine Or.inl ?_
    refine Or.inl ?_
    refine condI hF (fun hF => ?_) (fun hF => ?_)
    · refine Or.inl ?_
      have hy := someE hF
      subst hy
      refine And.intro rfl (Exists.intro [] (Exists.intro [] (And.intro rfl (And.intro rfl (And.intro trivial trivial)))))
    · refine Or.inl ?_
      refine condI hF (fun hF => ?_) (fun hF => ?_)
      · refine Or.inl ?_
        have hy := someE hF
        subst hy
        refine And.intro rfl (Exists.intro [] (Exists.intro [] (And.intro rfl (And.intro rfl (And.intro trivial trivial)))))
      · refine Or.inl ?_
        have hy := someE hF
        subst hy
        refine And.intro rfl (Exists.intro [] (Exists.intro [] (And.intro rfl (And.intro rfl (And.intro trivial trivial)))))
  · refine Or.inl ?_
    obtain ⟨r1, hr1, hF⟩ := bindE hF
    refine Or.inl (And.intro f98_in (callI C98 a r1 [] false C98_holds hr1 rfl rfl ?_))
    refine (And.intro rfl (And.intro (fun h => nomatch h) (And.intro rfl (And.intro rfl (And.intro trivial (And.intro trivial ?_))))))
    obtain ⟨r2, hr2, hF⟩ := bindE hF
    refine Or.inl (And.intro f98_in (callI C98 b r2 [] false C98_holds hr2 rfl rfl ?_))
    refine (And.intro rfl (And.intro (fun h => nomatch h) (And.intro rfl (And.intro rfl (And.intro trivial (And.intro trivial ?_))))))
    refine Or.inl ?_
    refine Or.inl ?_
    refine And.intro (by decide) ?_
    refine And.intro (by decide) ?_
    refine Or.inl ?_
    refine Or.inl ?_
    refine condI hF (fun hF => ?_) (fun hF => ?_)
    · refine Or.inl ?_
      obtain ⟨r3, hr3, hF⟩ := bindE hF
      refine Or.inl (And.intro f99_in (callI C99 ((1 : Int), (0 : Int), (!((decide (a < (0 : Int))) == (decide (b < (0 : Int)))))) r3 [] false C99_holds hr3 rfl rfl ?_))
      refine (And.intro rfl (And.intro rfl (And.intro rfl (And.intro (fun h => nomatch h) (And.intro rfl (And.intro rfl (And.intro trivial (And.intro trivial ?_))))))))
      have hy := someE hF
      subst hy
      refine And.intro rfl (Exists.intro [] (Exists.intro [] (And.intro rfl (And.intro rfl (And.intro trivial trivial)))))
    · refine Or.inl ?_
      obtain ⟨r4, hr4, hF⟩ := bindE hF
      refine Or.inl (And.intro f85_in (callI C85 ((Int.fdiv r1 (2 ^ min (Int.toNat (32 : Int)) (IntKind.bits IntKind.u64))), (IntKind.u64.wrap (r1 * 2 ^ min (Int.toNat (32 : Int)) (IntKind.bits IntKind.u64))), r2) r4 [] false C85_holds hr4 rfl rfl ?_))
      refine (And.intro rfl (And.intro rfl (And.intro rfl (And.intro (fun h => nomatch h) (And.intro rfl (And.intro rfl (And.intro trivial (And.intro trivial ?_))))))))
      refine Or.inl ?_
      obtain ⟨z7, hz7, hF⟩ := bindE hF
      refine Or.inr ⟨[(0, ⟨[(7, .dat .bool (!((decide (a < (0 : Int))) == (decide (b < (0 : Int)))))), (10, .dat (.int .u64) z7.1), (12, .dat (.int .u64) z7.2)], [], 0⟩)], ?_, ?_⟩
      · have hF := hz7
        clear hz7
        unfold f81_j2 at hF
        obtain ⟨z8, hz8, hF⟩ := bindE hF
        refine Or.inr ⟨[(0, ⟨[(7, .dat .bool (!((decide (a < (0 : Int))) == (decide (b < (0 : Int)))))), (10, .dat (.int .u64) r4.1), (12, .dat (.int .u64) (0 : Int)), (62, .dat .bool z8)], [], 0⟩)], ?_, ?_⟩
        · have hF := hz8
          clear hz8
          unfold f81_j3 at hF
          refine condN hF (fun hF => ?_) (fun hF => ?_)
          · refine gdYF ?_
            refine gdYF ?_
            refine gdYF ?_
            refine gdYF ?_
            refine gdYF ?_
            refine condI hF (fun hF => ?_) (fun hF => ?_)
            · refine gdYT ?_
              refine gdYT ?_
              refine gdYF ?_
              refine condT ?_
              refine condF ?_
              have hz := someE hF
              subst hz
              refine Exists.intro [] (Exists.intro [] (And.intro rfl (And.intro rfl (And.intro rfl (And.intro rfl (And.intro rfl (And.intro trivial trivial)))))))
            · refine gdNT ?_
              refine gdNT ?_
              refine gdYF ?_
              refine condF ?_
              refine condF ?_
              have hz := someE hF
              subst hz
              refine Exists.intro [] (Exists.intro [] (And.intro rfl (And.intro rfl (And.intro rfl (And.intro rfl (And.intro rfl (And.intro trivial trivial)))))))
          · refine gdNF ?_
            refine gdNF ?_
            refine gdNF ?_
            refine gdNF ?_
            refine gdNF ?_
            refine gdNF ?_
            refine condT ?_
            have hz := someE hF
            subst hz
            refine Exists.intro [] (Exists.intro [] (And.intro rfl (And.intro rfl (And.intro rfl (And.intro rfl (And.intro rfl (And.intro trivial trivial)))))))
        · refine And.intro ?_ trivial
          refine condI hF (fun hF => ?_) (fun hF => ?_)
          · obtain ⟨r9, hr9, hF⟩ := bindE hF
            refine Or.inr ⟨ext3 add64, [r9.1, r9.2], add64_ok, And.intro (ext3I hr9) ?_⟩
            have hz := someE hF
            subst hz
            refine Exists.intro [] (Exists.intro [] (And.intro rfl (And.intro rfl (And.intro rfl (And.intro rfl (And.intro trivial trivial))))))
          · have hz := someE hF
            subst hz
            refine Exists.intro [] (Exists.intro [] (And.intro rfl (And.intro rfl (And.intro rfl (And.intro rfl (And.intro trivial trivial))))))
      · refine And.intro ?_ trivial
        refine Or.inl ?_
        obtain ⟨r10, hr10, hF⟩ := bindE hF
        refine Or.inl (And.intro f99_in (callI C99 (z7.2, z7.1, (!((decide (a < (0 : Int))) == (decide (b < (0 : Int)))))) r10 [] false C99_holds hr10 rfl rfl ?_))
        refine (And.intro rfl (And.intro rfl (And.intro rfl (And.intro (fun h => nomatch h) (And.intro rfl (And.intro rfl (And.intro trivial (And.intro trivial ?_))))))))
        have hy := someE hF
        subst hy
        refine And.intro rfl (Exists.intro [] (Exists.intro [] (And.intro rfl (And.intro rfl (And.intro trivial trivial)))))
theorem C81_holds : C81.Holds Try.prog 81 := holds_of_vc tab_ok mixed (fn := Try.f81) (by kernel_rfl) rfl C81 (fun x y hF => C81_vc x.1 x.2 y hF)
theorem f81_in : ∃ fn, Try.prog.funcs[81]? = some fn ∧ fn.body.isSome = true ∧ (fn.name == "runtime.NumGoroutine") = false := ⟨Try.f81, by kernel_rfl, by kernel_rfl, by kernel_rfl⟩
end Go.Proofs
namespace Go.Proofs
open Go.AM
-- carousel/wide.magnitude
def f83 (a : Int × Int) : Option (Int × Int × Bool) :=
  bif (decide (a.1 < (0 : Int))) then
    bindF (f86 (a.1, a.2)) fun q4_7 =>
    some ((IntKind.u64.wrap q4_7.1), q4_7.2, true)
  else
    some ((IntKind.u64.wrap a.1), a.2, false)
def C83 : Con where
  X := Int × Int
  Y := Int × Int × Bool
  e := 0
  args x := [.dat (.p (.int .i64) (.int .u64)) x]
  hin x := []
  F x := f83 x
  ret y := [.dat (.int .u64) y.1, .dat (.int .u64) y.2.1, .dat .bool y.2.2]
  hout y := []
  nout := 0
theorem C83_vc (a : Int × Int) (y : Int × Int × Bool) (hF : f83 a = some y) : vc Try.prog tab Try.f83.ntmps 0 (match Try.f83.body with | some c => c | none => .skip) (retK tab C83 Try.f83.results.toList y) (C83.shIn a).st := by
  unfold f83 at hF
  refine Or.inl ?_
  refine Or.inl ?_
  refine Or.inl ?_
  refine condI hF (fun hF => ?_) (fun hF => ?_)
  · refine Or.inl ?_
    obtain ⟨q4_7, hq4_7, hF⟩ := bindE hF
    refine Or.inl (And.intro f86_in (callI C86 (a.1, a.2) q4_7 [] false C86_holds hq4_7 rfl rfl ?_))
    refine (And.intro rfl (And.intro rfl (And.intro (fun h => nomatch h) (And.intro rfl (And.intro rfl (And.intro trivial (And.intro trivial ?_)))))))
    refine Or.inl ?_
    refine Exists.intro (.take 0 (.take 1 (.take 2 (.take 3 (.take 4 (.take 5 (.take 6 (.take 7 .done)))))))) (Exists.intro [] (And.intro rfl ?_))
    have hy := someE hF
    subst hy
    refine And.intro rfl (Exists.intro [] (Exists.intro [] (And.intro rfl (And.intro rfl (And.intro rfl (And.intro rfl (And.intro trivial trivial)))))))
  · refine Or.inl ?_
    refine Exists.intro (.take 0 (.take 1 (.take 2 (.take 3 (.take 4 (.take 5 (.take 6 (.take 7 .done)))))))) (Exists.intro [] (And.intro rfl ?_))
    have hy := someE hF
    subst hy
    refine And.intro rfl (Exists.intro [] (Exists.intro [] (And.intro rfl (And.intro rfl (And.intro rfl (And.intro rfl (And.intro trivial trivial)))))))
theorem C83_holds : C83.Holds Try.prog 83 := holds_of_vc tab_ok mixed (fn := Try.f83) (by kernel_rfl) rfl C83 (fun x y hF => C83_vc x y hF)
theorem f83_in : ∃ fn, Try.prog.funcs[83]? = some fn ∧ fn.body.isSome = true ∧ (fn.name == "runtime.NumGoroutine") = false := ⟨Try.f83, by kernel_rfl, by kernel_rfl, by kernel_rfl⟩
end Go.Proofs
namespace Go.Proofs
open Go.AM
-- carousel/wide.Over
def f55_j3 (r4 : Int) (q6_7 : Int × Int) : Option Bool :=
  bif (decide (q6_7.2 > (IntKind.u64.wrap (r4 - q6_7.2)))) then
    some true
  else
    bif (q6_7.2 == (IntKind.u64.wrap (r4 - q6_7.2))) then
      some ((bitsOf IntKind.u64 (fun p q => p &&& q) q6_7.1 (1 : Int)) == (1 : Int))
    else
      some false
def f55_j2 (r3 : Int × Int × Bool) (r4 : Int) (q6_7 : Int × Int) : Option (Int × Int) :=
  bindF (f55_j3 r4 q6_7) fun z8 =>
  bif z8 then
    bindF (add64 q6_7.1 (1 : Int) (0 : Int)) fun r9 =>
    some ((IntKind.u64.wrap ((IntKind.u64.wrap (Int.tdiv r3.1 r4)) + r9.2)), r9.1)
  else
    some ((IntKind.u64.wrap (Int.tdiv r3.1 r4)), q6_7.1)
def f55 (a : Int × Int) (n : Int) : Option Int :=
  bif (n == (0 : Int)) then
    bindF (f82 (a.1, a.2) ((0 : Int), (0 : Int))) fun r1 =>
    bindF (f81 r1 (0 : Int)) fun r2 =>
    some r2
  else
    bindF (f83 (a.1, a.2)) fun r3 =>
    bindF (f84 n) fun r4 =>
    guardF (r4 ≠ 0) <|
    guardF (r4 ≠ 0) <|
    bindF (f85 (Int.tmod r3.1 r4) r3.2.1 r4) fun q6_7 =>
    bindF (f55_j2 r3 r4 q6_7) fun z7 =>
    bif (!(r3.2.2 == (decide (n < (0 : Int))))) then
      bindF (f86 ((IntKind.i64.wrap (if (9223372036854775807 : Int) < z7.1 then (9223372036854775807 : Int) else z7.1)), z7.2)) fun r10 =>
      bindF (f53 (r10.1, r10.2)) fun r11 =>
      some r11
    else
      bindF (f53 ((IntKind.i64.wrap (if (9223372036854775807 : Int) < z7.1 then (9223372036854775807 : Int) else z7.1)), z7.2)) fun r12 =>
      some r12
def C55 : Con where
  X := (Int × Int) × Int
  Y := Int
  e := 0
  args x := [.dat (.p (.int .i64) (.int .u64)) x.1, .dat (.int .i64) x.2]
  hin x := []
  F x := f55 x.1 x.2
  ret y := [.dat (.int .i64) y]
  hout y := []
  nout := 0
theorem C55_vc (a : Int × Int) (n : Int) (y : Int) (hF : f55 a n = some y) : vc Try.prog tab Try.f55.ntmps 0 (match Try.f55.body with | some c => c | none => .skip) (retK tab C55 Try.f55.results.toList y) (C55.shIn (a, n)).st := by
  unfold f55 at hF
  refine Or.inl ?_
  refine Or.inl ?_
  refine Or.inl ?_
  refine condI hF (fun hF => ?_) (fun hF => ?_)
  · refine Or.inl ?_
    obtain ⟨r1, hr1, hF⟩ := bindE hF
    refine Or.inl (And.intro f82_in (callI C82 ((a.1, a.2), ((0 : Int), (0 : Int))) r1 [] false C82_holds hr1 rfl rfl ?_))
    refine (And.intro rfl (And.intro rfl (And.intro rfl (And.intro rfl (And.intro (fun h => nomatch h) (And.intro rfl (And.intro rfl (And.intro trivial (And.intro trivial ?_)))))))))
    obtain ⟨r2, hr2, hF⟩ := bindE hF
    refine Or.inl (And.intro f81_in (callI C81 (r1, (0 : Int)) r2 [] false C81_holds hr2 rfl rfl ?_))
    refine (And.intro rfl (And.intro rfl (And.intro (fun h => nomatch h) (And.intro rfl (And.intro rfl (And.intro trivial (And.intro trivial ?_)))))))
    have hy := someE hF
    subst hy
    refine And.intro rfl (Exists.intro [] (Exists.intro [] (And.intro rfl (And.intro rfl (And.intro trivial trivial)))))
  · refine Or.inl ?_
    obtain ⟨r3, hr3, hF⟩ := bindE hF
    refine Or.inl (And.intro f83_in (callI C83 (a.1, a.2) r3 [] false C83_holds hr3 rfl rfl ?_))
    refine (And.intro rfl (And.intro rfl (And.intro (fun h => nomatch h) (And.intro rfl (And.intro rfl (And.intro trivial (And.intro trivial ?_)))))))
    refine Or.inl ?_
    obtain ⟨r4, hr4, hF⟩ := bindE hF
    refine Or.inl (And.intro f84_in (callI C84 n r4 [] false C84_holds hr4 rfl rfl ?_))
    refine (And.intro rfl (And.intro (fun h => nomatch h) (And.intro rfl (And.intro rfl (And.intro trivial (And.intro trivial ?_))))))
    refine Or.inl ?_
    refine Or.inl ?_
    refine Exists.intro (.take 0 (.take 1 (.take 2 (.take 3 (.take 4 (.take 5 (.take 6 (.take 7 .done)))))))) (Exists.intro [] (And.intro rfl ?_))
    refine guardI hF (fun hF => ?_)
    refine guardI hF (fun hF => ?_)
    refine Or.inl ?_
    obtain ⟨q6_7, hq6_7, hF⟩ := bindE hF
    refine Or.inl (And.intro f85_in (callI C85 ((Int.tmod r3.1 r4), r3.2.1, r4) q6_7 [] false C85_holds hq6_7 rfl rfl ?_))
    refine (And.intro rfl (And.intro rfl (And.intro rfl (And.intro (fun h => nomatch h) (And.intro rfl (And.intro rfl (And.intro trivial (And.intro trivial ?_))))))))
    obtain ⟨z7, hz7, hF⟩ := bindE hF
    refine Or.inr ⟨[(0, ⟨[(7, .dat .bool (!(r3.2.2 == (decide (n < (0 : Int)))))), (9, .dat (.int .u64) z7.1), (11, .dat (.int .u64) z7.2)], [], 0⟩)], ?_, ?_⟩
    · have hF := hz7
      clear hz7
      unfold f55_j2 at hF
      obtain ⟨z8, hz8, hF⟩ := bindE hF
      refine Or.inr ⟨[(0, ⟨[(7, .dat .bool (!(r3.2.2 == (decide (n < (0 : Int)))))), (9, .dat (.int .u64) (IntKind.u64.wrap (Int.tdiv r3.1 r4))), (11, .dat (.int .u64) q6_7.1), (61, .dat .bool z8)], [], 0⟩)], ?_, ?_⟩
      · have hF := hz8
        clear hz8
        unfold f55_j3 at hF
        refine condN hF (fun hF => ?_) (fun hF => ?_)
        · refine gdYF ?_
          refine gdYF ?_
          refine gdYF ?_
          refine gdYF ?_
          refine gdYF ?_
          refine condI hF (fun hF => ?_) (fun hF => ?_)
          · refine gdYT ?_
            refine gdYT ?_
            refine gdYF ?_
            refine condT ?_
            refine condF ?_
            have hz := someE hF
            subst hz
            refine Exists.intro [] (Exists.intro [] (And.intro rfl (And.intro rfl (And.intro rfl (And.intro rfl (And.intro rfl (And.intro trivial trivial)))))))
          · refine gdNT ?_
            refine gdNT ?_
            refine gdYF ?_
            refine condF ?_
            refine condF ?_
            have hz := someE hF
            subst hz
            refine Exists.intro [] (Exists.intro [] (And.intro rfl (And.intro rfl (And.intro rfl (And.intro rfl (And.intro rfl (And.intro trivial trivial)))))))
        · refine gdNF ?_
          refine gdNF ?_
          refine gdNF ?_
          refine gdNF ?_
          refine gdNF ?_
          refine gdNF ?_
          refine condT ?_
          have hz := someE hF
          subst hz
          refine Exists.intro [] (Exists.intro [] (And.intro rfl (And.intro rfl (And.intro rfl (And.intro rfl (And.intro rfl (And.intro trivial trivial)))))))
      · refine And.intro ?_ trivial
        refine condI hF (fun hF => ?_) (fun hF => ?_)
        · refine Or.inl ?_
          refine Or.inl ?_
          obtain ⟨r9, hr9, hF⟩ := bindE hF
          refine Or.inr ⟨ext3 add64, [r9.1, r9.2], add64_ok, And.intro (ext3I hr9) ?_⟩
          have hz := someE hF
          subst hz
          refine Exists.intro [] (Exists.intro [] (And.intro rfl (And.intro rfl (And.intro rfl (And.intro rfl (And.intro trivial trivial))))))
        · have hz := someE hF
          subst hz
          refine Exists.intro [] (Exists.intro [] (And.intro rfl (And.intro rfl (And.intro rfl (And.intro rfl (And.intro trivial trivial))))))
    · refine And.intro ?_ trivial
      refine Or.inl ?_
      refine Or.inl ?_
      refine Or.inl ?_
      refine condI hF (fun hF => ?_) (fun hF => ?_)
      · refine Or.inl ?_
        obtain ⟨r10, hr10, hF⟩ := bindE hF
        refine Or.inl (And.intro f86_in (callI C86 ((IntKind.i64.wrap (if (9223372036854775807 : Int) < z7.1 then (9223372036854775807 : Int) else z7.1)), z7.2) r10 [] false C86_holds hr10 rfl rfl ?_))
        refine (And.intro rfl (And.intro rfl (And.intro (fun h => nomatch h) (And.intro rfl (And.intro rfl (And.intro trivial (And.intro trivial ?_)))))))
        obtain ⟨r11, hr11, hF⟩ := bindE hF
        refine Or.inl (And.intro f53_in (callI C53 (r10.1, r10.2) r11 [] false C53_holds hr11 rfl rfl ?_))
        refine (And.intro rfl (And.intro rfl (And.intro (fun h => nomatch h) (And.intro rfl (And.intro rfl (And.intro trivial (And.intro trivial ?_)))))))
        have hy := someE hF
        subst hy
        refine And.intro rfl (Exists.intro [] (Exists.intro [] (And.intro rfl (And.intro rfl (And.intro trivial trivial)))))
      · refine Or.inl ?_
        obtain ⟨r12, hr12, hF⟩ := bindE hF
        refine Or.inl (And.intro f53_in (callI C53 ((IntKind.i64.wrap (if (9223372036854775807 : Int) < z7.1 then (9223372036854775807 : Int) else z7.1)), z7.2) r12 [] false C53_holds hr12 rfl rfl ?_))
        refine (And.intro rfl (And.intro rfl (And.intro (fun h => nomatch h) (And.intro rfl (And.intro rfl (And.intro trivial (And.intro trivial ?_)))))))
        have hy := someE hF
        subst hy
        refine And.intro rfl (Exists.intro [] (Exists.intro [] (And.intro rfl (And.intro rfl (And.intro trivial trivial)))))
theorem C55_holds : C55.Holds Try.prog 55 := holds_of_vc tab_ok mixed (fn := Try.f55) (by kernel_rfl) rfl C55 (fun x y hF => C55_vc x.1 x.2 y hF)
theorem f55_in : ∃ fn, Try.prog.funcs[55]? = some fn ∧ fn.body.isSome = true ∧ (fn.name == "runtime.NumGoroutine") = false := ⟨Try.f55, by kernel_rfl, by kernel_rfl, by kernel_rfl⟩
end Go.Proofs
namespace Go.Proofs
open Go.AM
-- carousel/matm.Mean
def f25 (a : (List Int) × (List Int)) : Option (Int × Int) :=
  bindF (f42 (a.1, a.2)) fun q3_8 =>
  bif (!q3_8) then
    some ((0 : Int), (1 : Int))
  else
    bindF (f54 a.2) fun q3_2 =>
    bindF (f55 (q3_2.1, q3_2.2) (List.length a.2 : Int)) fun q3_6 =>
    some (q3_6, (0 : Int))
def C25 : Con where
  X := (List Int) × (List Int)
  Y := Int × Int
  e := 0
  args x := [.dat (.p (.sl (.int .i64)) (.sl (.int .i64))) x]
  hin x := []
  F x := f25 x
  ret y := [.dat (.int .i64) y.1, .dat (.int .i64) y.2]
  hout y := []
  nout := 0
theorem C25_vc (a : (List Int) × (List Int)) (y : Int × Int) (hF : f25 a = some y) : vc Try.prog tab Try.f25.ntmps 0 (match Try.f25.body with | some c => c | none => .skip) (retK tab C25 Try.f25.results.toList y) (C25.shIn a).st := by
  unfold f25 at hF
  refine Or.inl ?_
  refine Or.inl ?_
  refine Or.inl ?_
  obtain ⟨q3_8, hq3_8, hF⟩ := bindE hF
  refine Or.inl (And.intro f42_in (callI C42 (a.1, a.2) q3_8 [] false C42_holds hq3_8 rfl rfl ?_))
  refine (And.intro rfl (And.intro rfl (And.intro (fun h => nomatch h) (And.intro rfl (And.intro rfl (And.intro trivial (And.intro trivial ?_)))))))
  refine condI hF (fun hF => ?_) (fun hF => ?_)
  · refine Or.inl ?_
    have hy := someE hF
    subst hy
    refine And.intro rfl (Exists.intro [] (Exists.intro [] (And.intro rfl (And.intro rfl (And.intro rfl (And.intro trivial trivial))))))
  · refine Or.inl ?_
    refine Exists.intro (.take 0 (.take 1 (.take 3 (.take 4 (.take 5 (.alt 2 (.alt 6 (.take 7 (.take 8 .done)) .done) .done)))))) (Exists.intro [] (And.intro rfl ?_))
    refine And.intro trivial ?_
    obtain ⟨q3_2, hq3_2, hF⟩ := bindE hF
    refine Or.inl (And.intro f54_in (callI C54 a.2 q3_2 [] false C54_holds hq3_2 rfl rfl ?_))
    refine (And.intro rfl (And.intro (fun h => nomatch h) (And.intro rfl (And.intro rfl (And.intro trivial (And.intro trivial ?_))))))
    refine And.intro trivial ?_
    obtain ⟨q3_6, hq3_6, hF⟩ := bindE hF
    refine Or.inl (And.intro f55_in (callI C55 ((q3_2.1, q3_2.2), (List.length a.2 : Int)) q3_6 [] false C55_holds hq3_6 rfl rfl ?_))
    refine (And.intro rfl (And.intro rfl (And.intro rfl (And.intro (fun h => nomatch h) (And.intro rfl (And.intro rfl (And.intro trivial (And.intro trivial ?_))))))))
    have hy := someE hF
    subst hy
    refine And.intro rfl (Exists.intro [] (Exists.intro [] (And.intro rfl (And.intro rfl (And.intro rfl (And.intro trivial trivial))))))
theorem C25_holds : C25.Holds Try.prog 25 := holds_of_vc tab_ok mixed (fn := Try.f25) (by kernel_rfl) rfl C25 (fun x y hF => C25_vc x y hF)
theorem f25_in : ∃ fn, Try.prog.funcs[25]? = some fn ∧ fn.body.isSome = true ∧ (fn.name == "runtime.NumGoroutine") = false := ⟨Try.f25, by kernel_rfl, by kernel_rfl, by kernel_rfl⟩
end Go.Proofs
