import Derived.Test.YtdnlicefpmiljaaGreatDoorModelCountsF4
set_option linter.unusedVariables false
set_option maxRecDepth 100000
set_option maxHeartbeats 8000000
namespace Go.Proofs
open Go.AM
-- math/bits.Div64
def f211_j4 (lo : Int) (y_ : Int) (q6_7 : Int) (q1 : Int) (rhat : Int) : Option (Sum Unit Unit) :=
  bif (decide (q1 ≥ (4294967296 : Int))) then
    some (Sum.inl ())
  else
    bif (decide ((IntKind.u64.wrap (q1 * (bitsOf IntKind.u64 (fun p q => p &&& q) (IntKind.u64.wrap (y_ * 2 ^ min (Int.toNat (IntKind.u64.wrap q6_7)) (IntKind.bits IntKind.u64))) (4294967295 : Int)))) > (IntKind.u64.wrap ((IntKind.u64.wrap ((4294967296 : Int) * rhat)) + (Int.fdiv (IntKind.u64.wrap (lo * 2 ^ min (Int.toNat (IntKind.u64.wrap q6_7)) (IntKind.bits IntKind.u64))) (2 ^ min (Int.toNat (32 : Int)) (IntKind.bits IntKind.u64))))))) then
      some (Sum.inl ())
    else
      some (Sum.inr ())
def f211_l3 (lo : Int) (y_ : Int) (q6_7 : Int) (go : (Int × Int) → Option Int) (q1 : Int) (rhat : Int) : Option Int :=
  bindF (f211_j4 lo y_ q6_7 q1 rhat) fun z4 =>
  sumF z4 (fun z4a =>
    bif (decide ((IntKind.u64.wrap (rhat + (Int.fdiv (IntKind.u64.wrap (y_ * 2 ^ min (Int.toNat (IntKind.u64.wrap q6_7)) (IntKind.bits IntKind.u64))) (2 ^ min (Int.toNat (32 : Int)) (IntKind.bits IntKind.u64))))) ≥ (4294967296 : Int))) then
      some (IntKind.u64.wrap (q1 - (1 : Int)))
    else
      go ((IntKind.u64.wrap (q1 - (1 : Int))), (IntKind.u64.wrap (rhat + (Int.fdiv (IntKind.u64.wrap (y_ * 2 ^ min (Int.toNat (IntKind.u64.wrap q6_7)) (IntKind.bits IntKind.u64))) (2 ^ min (Int.toNat (32 : Int)) (IntKind.bits IntKind.u64))))))) (fun z4b =>
    some q1)
def f211_j8 (lo : Int) (y_ : Int) (q6_7 : Int) (rhat : Int) (q0 : Int) : Option (Sum Unit Unit) :=
  bif (decide (q0 ≥ (4294967296 : Int))) then
    some (Sum.inl ())
  else
    bif (decide ((IntKind.u64.wrap (q0 * (bitsOf IntKind.u64 (fun p q => p &&& q) (IntKind.u64.wrap (y_ * 2 ^ min (Int.toNat (IntKind.u64.wrap q6_7)) (IntKind.bits IntKind.u64))) (4294967295 : Int)))) > (IntKind.u64.wrap ((IntKind.u64.wrap ((4294967296 : Int) * rhat)) + (bitsOf IntKind.u64 (fun p q => p &&& q) (IntKind.u64.wrap (lo * 2 ^ min (Int.toNat (IntKind.u64.wrap q6_7)) (IntKind.bits IntKind.u64))) (4294967295 : Int)))))) then
      some (Sum.inl ())
    else
      some (Sum.inr ())
def f211_l7 (lo : Int) (y_ : Int) (q6_7 : Int) (go : (Int × Int) → Option Int) (rhat : Int) (q0 : Int) : Option Int :=
  bindF (f211_j8 lo y_ q6_7 rhat q0) fun z8 =>
  sumF z8 (fun z8a =>
    bif (decide ((IntKind.u64.wrap (rhat + (Int.fdiv (IntKind.u64.wrap (y_ * 2 ^ min (Int.toNat (IntKind.u64.wrap q6_7)) (IntKind.bits IntKind.u64))) (2 ^ min (Int.toNat (32 : Int)) (IntKind.bits IntKind.u64))))) ≥ (4294967296 : Int))) then
      some (IntKind.u64.wrap (q0 - (1 : Int)))
    else
      go ((IntKind.u64.wrap (rhat + (Int.fdiv (IntKind.u64.wrap (y_ * 2 ^ min (Int.toNat (IntKind.u64.wrap q6_7)) (IntKind.bits IntKind.u64))) (2 ^ min (Int.toNat (32 : Int)) (IntKind.bits IntKind.u64))))), (IntKind.u64.wrap (q0 - (1 : Int))))) (fun z8b =>
    some q0)
def f211 (hi : Int) (lo : Int) (y_ : Int) : Option (Int × Int) :=
  bif (y_ == (0 : Int)) then
    none
  else
    bif (decide (y_ ≤ hi)) then
      none
    else
      bif (hi == (0 : Int)) then
        guardF (y_ ≠ 0) <|
        guardF (y_ ≠ 0) <|
        some ((IntKind.u64.wrap (Int.tdiv lo y_)), (Int.tmod lo y_))
      else
        bindF (f226 y_) fun q6_7 =>
        guardF (0 ≤ (IntKind.u64.wrap q6_7)) <|
        guardF (0 ≤ (IntKind.u64.wrap q6_7)) <|
        guardF (0 ≤ (IntKind.u64.wrap ((64 : Int) - (IntKind.u64.wrap q6_7)))) <|
        guardF (0 ≤ (IntKind.u64.wrap q6_7)) <|
        guardF ((Int.fdiv (IntKind.u64.wrap (y_ * 2 ^ min (Int.toNat (IntKind.u64.wrap q6_7)) (IntKind.bits IntKind.u64))) (2 ^ min (Int.toNat (32 : Int)) (IntKind.bits IntKind.u64))) ≠ 0) <|
        bindF (loopF (fun go x => f211_l3 lo y_ q6_7 go x.1 x.2) fuelN ((IntKind.u64.wrap (Int.tdiv (bitsOf IntKind.u64 (fun p q => p ||| q) (IntKind.u64.wrap (hi * 2 ^ min (Int.toNat (IntKind.u64.wrap q6_7)) (IntKind.bits IntKind.u64))) (Int.fdiv lo (2 ^ min (Int.toNat (IntKind.u64.wrap ((64 : Int) - (IntKind.u64.wrap q6_7)))) (IntKind.bits IntKind.u64)))) (Int.fdiv (IntKind.u64.wrap (y_ * 2 ^ min (Int.toNat (IntKind.u64.wrap q6_7)) (IntKind.bits IntKind.u64))) (2 ^ min (Int.toNat (32 : Int)) (IntKind.bits IntKind.u64))))), (IntKind.u64.wrap ((bitsOf IntKind.u64 (fun p q => p ||| q) (IntKind.u64.wrap (hi * 2 ^ min (Int.toNat (IntKind.u64.wrap q6_7)) (IntKind.bits IntKind.u64))) (Int.fdiv lo (2 ^ min (Int.toNat (IntKind.u64.wrap ((64 : Int) - (IntKind.u64.wrap q6_7)))) (IntKind.bits IntKind.u64)))) - (IntKind.u64.wrap ((IntKind.u64.wrap (Int.tdiv (bitsOf IntKind.u64 (fun p q => p ||| q) (IntKind.u64.wrap (hi * 2 ^ min (Int.toNat (IntKind.u64.wrap q6_7)) (IntKind.bits IntKind.u64))) (Int.fdiv lo (2 ^ min (Int.toNat (IntKind.u64.wrap ((64 : Int) - (IntKind.u64.wrap q6_7)))) (IntKind.bits IntKind.u64)))) (Int.fdiv (IntKind.u64.wrap (y_ * 2 ^ min (Int.toNat (IntKind.u64.wrap q6_7)) (IntKind.bits IntKind.u64))) (2 ^ min (Int.toNat (32 : Int)) (IntKind.bits IntKind.u64))))) * (Int.fdiv (IntKind.u64.wrap (y_ * 2 ^ min (Int.toNat (IntKind.u64.wrap q6_7)) (IntKind.bits IntKind.u64))) (2 ^ min (Int.toNat (32 : Int)) (IntKind.bits IntKind.u64))))))))) fun z3 =>
        guardF ((Int.fdiv (IntKind.u64.wrap (y_ * 2 ^ min (Int.toNat (IntKind.u64.wrap q6_7)) (IntKind.bits IntKind.u64))) (2 ^ min (Int.toNat (32 : Int)) (IntKind.bits IntKind.u64))) ≠ 0) <|
        bindF (loopF (fun go x => f211_l7 lo y_ q6_7 go x.1 x.2) fuelN ((IntKind.u64.wrap ((IntKind.u64.wrap ((IntKind.u64.wrap ((IntKind.u64.wrap ((bitsOf IntKind.u64 (fun p q => p ||| q) (IntKind.u64.wrap (hi * 2 ^ min (Int.toNat (IntKind.u64.wrap q6_7)) (IntKind.bits IntKind.u64))) (Int.fdiv lo (2 ^ min (Int.toNat (IntKind.u64.wrap ((64 : Int) - (IntKind.u64.wrap q6_7)))) (IntKind.bits IntKind.u64)))) * (4294967296 : Int))) + (Int.fdiv (IntKind.u64.wrap (lo * 2 ^ min (Int.toNat (IntKind.u64.wrap q6_7)) (IntKind.bits IntKind.u64))) (2 ^ min (Int.toNat (32 : Int)) (IntKind.bits IntKind.u64))))) - (IntKind.u64.wrap (z3 * (IntKind.u64.wrap (y_ * 2 ^ min (Int.toNat (IntKind.u64.wrap q6_7)) (IntKind.bits IntKind.u64))))))) - (IntKind.u64.wrap ((IntKind.u64.wrap (Int.tdiv (IntKind.u64.wrap ((IntKind.u64.wrap ((IntKind.u64.wrap ((bitsOf IntKind.u64 (fun p q => p ||| q) (IntKind.u64.wrap (hi * 2 ^ min (Int.toNat (IntKind.u64.wrap q6_7)) (IntKind.bits IntKind.u64))) (Int.fdiv lo (2 ^ min (Int.toNat (IntKind.u64.wrap ((64 : Int) - (IntKind.u64.wrap q6_7)))) (IntKind.bits IntKind.u64)))) * (4294967296 : Int))) + (Int.fdiv (IntKind.u64.wrap (lo * 2 ^ min (Int.toNat (IntKind.u64.wrap q6_7)) (IntKind.bits IntKind.u64))) (2 ^ min (Int.toNat (32 : Int)) (IntKind.bits IntKind.u64))))) - (IntKind.u64.wrap (z3 * (IntKind.u64.wrap (y_ * 2 ^ min (Int.toNat (IntKind.u64.wrap q6_7)) (IntKind.bits IntKind.u64))))))) (Int.fdiv (IntKind.u64.wrap (y_ * 2 ^ min (Int.toNat (IntKind.u64.wrap q6_7)) (IntKind.bits IntKind.u64))) (2 ^ min (Int.toNat (32 : Int)) (IntKind.bits IntKind.u64))))) * (Int.fdiv (IntKind.u64.wrap (y_ * 2 ^ min (Int.toNat (IntKind.u64.wrap q6_7)) (IntKind.bits IntKind.u64))) (2 ^ min (Int.toNat (32 : Int)) (IntKind.bits IntKind.u64))))))), (IntKind.u64.wrap (Int.tdiv (IntKind.u64.wrap ((IntKind.u64.wrap ((IntKind.u64.wrap ((bitsOf IntKind.u64 (fun p q => p ||| q) (IntKind.u64.wrap (hi * 2 ^ min (Int.toNat (IntKind.u64.wrap q6_7)) (IntKind.bits IntKind.u64))) (Int.fdiv lo (2 ^ min (Int.toNat (IntKind.u64.wrap ((64 : Int) - (IntKind.u64.wrap q6_7)))) (IntKind.bits IntKind.u64)))) * (4294967296 : Int))) + (Int.fdiv (IntKind.u64.wrap (lo * 2 ^ min (Int.toNat (IntKind.u64.wrap q6_7)) (IntKind.bits IntKind.u64))) (2 ^ min (Int.toNat (32 : Int)) (IntKind.bits IntKind.u64))))) - (IntKind.u64.wrap (z3 * (IntKind.u64.wrap (y_ * 2 ^ min (Int.toNat (IntKind.u64.wrap q6_7)) (IntKind.bits IntKind.u64))))))) (Int.fdiv (IntKind.u64.wrap (y_ * 2 ^ min (Int.toNat (IntKind.u64.wrap q6_7)) (IntKind.bits IntKind.u64))) (2 ^ min (Int.toNat (32 : Int)) (IntKind.bits IntKind.u64))))))) fun z7 =>
        guardF (0 ≤ (IntKind.u64.wrap q6_7)) <|
        some ((IntKind.u64.wrap ((IntKind.u64.wrap (z3 * (4294967296 : Int))) + z7)), (Int.fdiv (IntKind.u64.wrap ((IntKind.u64.wrap ((IntKind.u64.wrap ((IntKind.u64.wrap ((IntKind.u64.wrap ((IntKind.u64.wrap ((bitsOf IntKind.u64 (fun p q => p ||| q) (IntKind.u64.wrap (hi * 2 ^ min (Int.toNat (IntKind.u64.wrap q6_7)) (IntKind.bits IntKind.u64))) (Int.fdiv lo (2 ^ min (Int.toNat (IntKind.u64.wrap ((64 : Int) - (IntKind.u64.wrap q6_7)))) (IntKind.bits IntKind.u64)))) * (4294967296 : Int))) + (Int.fdiv (IntKind.u64.wrap (lo * 2 ^ min (Int.toNat (IntKind.u64.wrap q6_7)) (IntKind.bits IntKind.u64))) (2 ^ min (Int.toNat (32 : Int)) (IntKind.bits IntKind.u64))))) - (IntKind.u64.wrap (z3 * (IntKind.u64.wrap (y_ * 2 ^ min (Int.toNat (IntKind.u64.wrap q6_7)) (IntKind.bits IntKind.u64))))))) * (4294967296 : Int))) + (bitsOf IntKind.u64 (fun p q => p &&& q) (IntKind.u64.wrap (lo * 2 ^ min (Int.toNat (IntKind.u64.wrap q6_7)) (IntKind.bits IntKind.u64))) (4294967295 : Int)))) - (IntKind.u64.wrap (z7 * (IntKind.u64.wrap (y_ * 2 ^ min (Int.toNat (IntKind.u64.wrap q6_7)) (IntKind.bits IntKind.u64))))))) (2 ^ min (Int.toNat (IntKind.u64.wrap q6_7)) (IntKind.bits IntKind.u64))))
def C211 : Con where
  X := Int × Int × Int
  Y := Int × Int
  e := 0
  args x := [.dat (.int .u64) x.1, .dat (.int .u64) x.2.1, .dat (.int .u64) x.2.2]
  hin x := []
  F x := f211 x.1 x.2.1 x.2.2
  ret y := [.dat (.int .u64) y.1, .dat (.int .u64) y.2]
  hout y := []
  nout := 0
theorem C211_vc (hi : Int) (lo : Int) (y_ : Int) (y : Int × Int) (hF : f211 hi lo y_ = some y) : vc Tryz.prog tab Tryz.f211.ntmps 0 (match Tryz.f211.body with | some c => c | none => .skip) (retK tab C211 Tryz.f211.results.toList y) (C211.shIn (hi, lo, y_)).st := by
  unfold f211 at hF
  refine Or.inl ?_
  refine Or.inl ?_
  refine Or.inl ?_
  refine condI hF (fun hF => ?_) (fun hF => ?_)
  · exact nomatch hF
  · refine Or.inl ?_
    refine Or.inl ?_
    refine condI hF (fun hF => ?_) (fun hF => ?_)
    · exact nomatch hF
    · refine Or.inl ?_
      refine Or.inl ?_
      refine condI hF (fun hF => ?_) (fun hF => ?_)
      · refine Or.inl ?_
        refine Exists.intro (.take 0 (.take 1 (.take 2 (.take 3 (.take 4 (.take 5 (.take 6 (.take 7 .done)))))))) (Exists.intro [] (Exists.intro [] (And.intro rfl ?_)))
        refine guardI hF (fun hF => ?_)
        refine guardI hF (fun hF => ?_)
        have hy := someE hF
        subst hy
        refine And.intro rfl (Exists.intro [] (Exists.intro [] (Exists.intro [] (Exists.intro [] (Exists.intro [] (And.intro rfl (And.intro rfl (And.intro rfl (And.intro trivial trivial)))))))))
      · refine Or.inl ?_
        obtain ⟨q6_7, hq6_7, hF⟩ := bindE hF
        refine Or.inl (And.intro f226_in (callV0 (callI C226 y_ q6_7 [] false C226_holds hq6_7 rfl rfl ?_)))
        refine (And.intro rfl (And.intro (fun h => nomatch h) (And.intro rfl (And.intro rfl (And.intro trivial (And.intro trivial ?_))))))
        refine Or.inl ?_
        refine guardI hF (fun hF => ?_)
        refine Or.inl ?_
        refine And.intro (by decide) ?_
        refine Or.inl ?_
        refine Or.inl ?_
        refine guardI hF (fun hF => ?_)
        refine guardI hF (fun hF => ?_)
        refine Or.inl ?_
        refine guardI hF (fun hF => ?_)
        refine Or.inl ?_
        refine And.intro (by decide) ?_
        refine Or.inl ?_
        refine Or.inl ?_
        refine guardI hF (fun hF => ?_)
        refine Or.inl ?_
        refine Or.inl ?_
        obtain ⟨z3, hz3, hF⟩ := bindE hF
        refine loopI (Int × Int) Int (fun x => ⟨[(2, .dat (.int .u64) (IntKind.u64.wrap (y_ * 2 ^ min (Int.toNat (IntKind.u64.wrap q6_7)) (IntKind.bits IntKind.u64)))), (8, .dat (.int .u64) (IntKind.u64.wrap q6_7)), (9, .dat (.int .u64) (Int.fdiv (IntKind.u64.wrap (y_ * 2 ^ min (Int.toNat (IntKind.u64.wrap q6_7)) (IntKind.bits IntKind.u64))) (2 ^ min (Int.toNat (32 : Int)) (IntKind.bits IntKind.u64)))), (10, .dat (.int .u64) (bitsOf IntKind.u64 (fun p q => p &&& q) (IntKind.u64.wrap (y_ * 2 ^ min (Int.toNat (IntKind.u64.wrap q6_7)) (IntKind.bits IntKind.u64))) (4294967295 : Int))), (11, .dat (.int .u64) (bitsOf IntKind.u64 (fun p q => p ||| q) (IntKind.u64.wrap (hi * 2 ^ min (Int.toNat (IntKind.u64.wrap q6_7)) (IntKind.bits IntKind.u64))) (Int.fdiv lo (2 ^ min (Int.toNat (IntKind.u64.wrap ((64 : Int) - (IntKind.u64.wrap q6_7)))) (IntKind.bits IntKind.u64))))), (13, .dat (.int .u64) (Int.fdiv (IntKind.u64.wrap (lo * 2 ^ min (Int.toNat (IntKind.u64.wrap q6_7)) (IntKind.bits IntKind.u64))) (2 ^ min (Int.toNat (32 : Int)) (IntKind.bits IntKind.u64)))), (14, .dat (.int .u64) (bitsOf IntKind.u64 (fun p q => p &&& q) (IntKind.u64.wrap (lo * 2 ^ min (Int.toNat (IntKind.u64.wrap q6_7)) (IntKind.bits IntKind.u64))) (4294967295 : Int))), (15, .dat (.int .u64) x.1), (16, .dat (.int .u64) x.2)], [], 0⟩) (fun z => [(2, ⟨[(2, .dat (.int .u64) (IntKind.u64.wrap (y_ * 2 ^ min (Int.toNat (IntKind.u64.wrap q6_7)) (IntKind.bits IntKind.u64)))), (8, .dat (.int .u64) (IntKind.u64.wrap q6_7)), (9, .dat (.int .u64) (Int.fdiv (IntKind.u64.wrap (y_ * 2 ^ min (Int.toNat (IntKind.u64.wrap q6_7)) (IntKind.bits IntKind.u64))) (2 ^ min (Int.toNat (32 : Int)) (IntKind.bits IntKind.u64)))), (10, .dat (.int .u64) (bitsOf IntKind.u64 (fun p q => p &&& q) (IntKind.u64.wrap (y_ * 2 ^ min (Int.toNat (IntKind.u64.wrap q6_7)) (IntKind.bits IntKind.u64))) (4294967295 : Int))), (11, .dat (.int .u64) (bitsOf IntKind.u64 (fun p q => p ||| q) (IntKind.u64.wrap (hi * 2 ^ min (Int.toNat (IntKind.u64.wrap q6_7)) (IntKind.bits IntKind.u64))) (Int.fdiv lo (2 ^ min (Int.toNat (IntKind.u64.wrap ((64 : Int) - (IntKind.u64.wrap q6_7)))) (IntKind.bits IntKind.u64))))), (13, .dat (.int .u64) (Int.fdiv (IntKind.u64.wrap (lo * 2 ^ min (Int.toNat (IntKind.u64.wrap q6_7)) (IntKind.bits IntKind.u64))) (2 ^ min (Int.toNat (32 : Int)) (IntKind.bits IntKind.u64)))), (14, .dat (.int .u64) (bitsOf IntKind.u64 (fun p q => p &&& q) (IntKind.u64.wrap (lo * 2 ^ min (Int.toNat (IntKind.u64.wrap q6_7)) (IntKind.bits IntKind.u64))) (4294967295 : Int))), (15, .dat (.int .u64) z)], [], 0⟩)]) (loopF (fun go x => f211_l3 lo y_ q6_7 go x.1 x.2)) fuelN ((IntKind.u64.wrap (Int.tdiv (bitsOf IntKind.u64 (fun p q => p ||| q) (IntKind.u64.wrap (hi * 2 ^ min (Int.toNat (IntKind.u64.wrap q6_7)) (IntKind.bits IntKind.u64))) (Int.fdiv lo (2 ^ min (Int.toNat (IntKind.u64.wrap ((64 : Int) - (IntKind.u64.wrap q6_7)))) (IntKind.bits IntKind.u64)))) (Int.fdiv (IntKind.u64.wrap (y_ * 2 ^ min (Int.toNat (IntKind.u64.wrap q6_7)) (IntKind.bits IntKind.u64))) (2 ^ min (Int.toNat (32 : Int)) (IntKind.bits IntKind.u64))))), (IntKind.u64.wrap ((bitsOf IntKind.u64 (fun p q => p ||| q) (IntKind.u64.wrap (hi * 2 ^ min (Int.toNat (IntKind.u64.wrap q6_7)) (IntKind.bits IntKind.u64))) (Int.fdiv lo (2 ^ min (Int.toNat (IntKind.u64.wrap ((64 : Int) - (IntKind.u64.wrap q6_7)))) (IntKind.bits IntKind.u64)))) - (IntKind.u64.wrap ((IntKind.u64.wrap (Int.tdiv (bitsOf IntKind.u64 (fun p q => p ||| q) (IntKind.u64.wrap (hi * 2 ^ min (Int.toNat (IntKind.u64.wrap q6_7)) (IntKind.bits IntKind.u64))) (Int.fdiv lo (2 ^ min (Int.toNat (IntKind.u64.wrap ((64 : Int) - (IntKind.u64.wrap q6_7)))) (IntKind.bits IntKind.u64)))) (Int.fdiv (IntKind.u64.wrap (y_ * 2 ^ min (Int.toNat (IntKind.u64.wrap q6_7)) (IntKind.bits IntKind.u64))) (2 ^ min (Int.toNat (32 : Int)) (IntKind.bits IntKind.u64))))) * (Int.fdiv (IntKind.u64.wrap (y_ * 2 ^ min (Int.toNat (IntKind.u64.wrap q6_7)) (IntKind.bits IntKind.u64))) (2 ^ min (Int.toNat (32 : Int)) (IntKind.bits IntKind.u64)))))))) z3 (And.intro hz3 (And.intro (Exists.intro [] (Exists.intro [] (Exists.intro [] (Exists.intro [] (Exists.intro [] (And.intro rfl (And.intro rfl (And.intro rfl (And.intro rfl (And.intro rfl (And.intro rfl (And.intro rfl (And.intro rfl (And.intro rfl (And.intro rfl (And.intro trivial trivial)))))))))))))))) (And.intro (fun _ _ h => loopZ h) (And.intro (fun m => curI (fun q1 => fun rhat z hF => ?_)) ?_))))
        · have hF : f211_l3 lo y_ q6_7 (loopF (fun go x => f211_l3 lo y_ q6_7 go x.1 x.2) m) q1 rhat = some z := hF
          unfold f211_l3 at hF
          obtain ⟨z4, hz4, hF⟩ := bindE hF
          refine Or.inr ⟨Sum.elim (fun z4a => [(0, ⟨[(2, .dat (.int .u64) (IntKind.u64.wrap (y_ * 2 ^ min (Int.toNat (IntKind.u64.wrap q6_7)) (IntKind.bits IntKind.u64)))), (8, .dat (.int .u64) (IntKind.u64.wrap q6_7)), (9, .dat (.int .u64) (Int.fdiv (IntKind.u64.wrap (y_ * 2 ^ min (Int.toNat (IntKind.u64.wrap q6_7)) (IntKind.bits IntKind.u64))) (2 ^ min (Int.toNat (32 : Int)) (IntKind.bits IntKind.u64)))), (10, .dat (.int .u64) (bitsOf IntKind.u64 (fun p q => p &&& q) (IntKind.u64.wrap (y_ * 2 ^ min (Int.toNat (IntKind.u64.wrap q6_7)) (IntKind.bits IntKind.u64))) (4294967295 : Int))), (11, .dat (.int .u64) (bitsOf IntKind.u64 (fun p q => p ||| q) (IntKind.u64.wrap (hi * 2 ^ min (Int.toNat (IntKind.u64.wrap q6_7)) (IntKind.bits IntKind.u64))) (Int.fdiv lo (2 ^ min (Int.toNat (IntKind.u64.wrap ((64 : Int) - (IntKind.u64.wrap q6_7)))) (IntKind.bits IntKind.u64))))), (13, .dat (.int .u64) (Int.fdiv (IntKind.u64.wrap (lo * 2 ^ min (Int.toNat (IntKind.u64.wrap q6_7)) (IntKind.bits IntKind.u64))) (2 ^ min (Int.toNat (32 : Int)) (IntKind.bits IntKind.u64)))), (14, .dat (.int .u64) (bitsOf IntKind.u64 (fun p q => p &&& q) (IntKind.u64.wrap (lo * 2 ^ min (Int.toNat (IntKind.u64.wrap q6_7)) (IntKind.bits IntKind.u64))) (4294967295 : Int))), (15, .dat (.int .u64) q1), (16, .dat (.int .u64) rhat)], [], 0⟩)]) (fun z4b => [(2, ⟨[(2, .dat (.int .u64) (IntKind.u64.wrap (y_ * 2 ^ min (Int.toNat (IntKind.u64.wrap q6_7)) (IntKind.bits IntKind.u64)))), (8, .dat (.int .u64) (IntKind.u64.wrap q6_7)), (9, .dat (.int .u64) (Int.fdiv (IntKind.u64.wrap (y_ * 2 ^ min (Int.toNat (IntKind.u64.wrap q6_7)) (IntKind.bits IntKind.u64))) (2 ^ min (Int.toNat (32 : Int)) (IntKind.bits IntKind.u64)))), (10, .dat (.int .u64) (bitsOf IntKind.u64 (fun p q => p &&& q) (IntKind.u64.wrap (y_ * 2 ^ min (Int.toNat (IntKind.u64.wrap q6_7)) (IntKind.bits IntKind.u64))) (4294967295 : Int))), (11, .dat (.int .u64) (bitsOf IntKind.u64 (fun p q => p ||| q) (IntKind.u64.wrap (hi * 2 ^ min (Int.toNat (IntKind.u64.wrap q6_7)) (IntKind.bits IntKind.u64))) (Int.fdiv lo (2 ^ min (Int.toNat (IntKind.u64.wrap ((64 : Int) - (IntKind.u64.wrap q6_7)))) (IntKind.bits IntKind.u64))))), (13, .dat (.int .u64) (Int.fdiv (IntKind.u64.wrap (lo * 2 ^ min (Int.toNat (IntKind.u64.wrap q6_7)) (IntKind.bits IntKind.u64))) (2 ^ min (Int.toNat (32 : Int)) (IntKind.bits IntKind.u64)))), (14, .dat (.int .u64) (bitsOf IntKind.u64 (fun p q => p &&& q) (IntKind.u64.wrap (lo * 2 ^ min (Int.toNat (IntKind.u64.wrap q6_7)) (IntKind.bits IntKind.u64))) (4294967295 : Int))), (15, .dat (.int .u64) q1)], [], 0⟩)]) z4, ?_, ?_⟩
          · have hF := hz4
            clear hz4
            unfold f211_j4 at hF
            refine Or.inl ?_
            refine condN hF (fun hF => ?_) (fun hF => ?_)
            · refine gdYF ?_
              refine gdYF ?_
              refine gdYF ?_
              refine gdYF ?_
              refine gdYF ?_
              refine gdYF ?_
              refine gdYF ?_
              refine condF ?_
              refine condI hF (fun hF => ?_) (fun hF => ?_)
              · have hz := someE hF
                subst hz
                refine Exists.intro [] (Exists.intro [] (Exists.intro [] (Exists.intro [] (Exists.intro [] (And.intro rfl (And.intro rfl (And.intro rfl (And.intro rfl (And.intro rfl (And.intro rfl (And.intro rfl (And.intro rfl (And.intro rfl (And.intro rfl (And.intro trivial trivial)))))))))))))))
              · have hz := someE hF
                subst hz
                refine Exists.intro [] (Exists.intro [] (Exists.intro [] (Exists.intro [] (Exists.intro [] (And.intro rfl (And.intro rfl (And.intro rfl (And.intro rfl (And.intro rfl (And.intro rfl (And.intro rfl (And.intro rfl (And.intro rfl (And.intro trivial trivial))))))))))))))
            · refine gdNF ?_
              refine gdNF ?_
              refine gdNF ?_
              refine gdNF ?_
              refine gdNF ?_
              refine gdNF ?_
              refine gdNF ?_
              refine condT ?_
              refine condT ?_
              have hz := someE hF
              subst hz
              refine Exists.intro [] (Exists.intro [] (Exists.intro [] (Exists.intro [] (Exists.intro [] (And.intro rfl (And.intro rfl (And.intro rfl (And.intro rfl (And.intro rfl (And.intro rfl (And.intro rfl (And.intro rfl (And.intro rfl (And.intro rfl (And.intro trivial trivial)))))))))))))))
          · rcases z4 with z4a | z4b
            · dsimp only [sumF] at hF
              refine And.intro ?_ trivial
              refine Or.inl ?_
              refine Or.inl ?_
              refine Or.inl ?_
              refine condI hF (fun hF => ?_) (fun hF => ?_)
              · have hz := someE hF
                subst hz
                refine Exists.intro [] (Exists.intro [] (Exists.intro [] (Exists.intro [] (Exists.intro [] (And.intro rfl (And.intro rfl (And.intro rfl (And.intro rfl (And.intro rfl (And.intro rfl (And.intro rfl (And.intro rfl (And.intro rfl (And.intro trivial trivial))))))))))))))
              · refine Exists.intro ((IntKind.u64.wrap (q1 - (1 : Int))), (IntKind.u64.wrap (rhat + (Int.fdiv (IntKind.u64.wrap (y_ * 2 ^ min (Int.toNat (IntKind.u64.wrap q6_7)) (IntKind.bits IntKind.u64))) (2 ^ min (Int.toNat (32 : Int)) (IntKind.bits IntKind.u64)))))) (And.intro hF (Exists.intro [] (Exists.intro [] (Exists.intro [] (Exists.intro [] (Exists.intro [] (And.intro rfl (And.intro rfl (And.intro rfl (And.intro rfl (And.intro rfl (And.intro rfl (And.intro rfl (And.intro rfl (And.intro rfl (And.intro rfl (And.intro trivial trivial)))))))))))))))))
            · dsimp only [sumF] at hF
              refine And.intro ?_ trivial
              have hz := someE hF
              subst hz
              refine Exists.intro [] (Exists.intro [] (Exists.intro [] (Exists.intro [] (Exists.intro [] (And.intro rfl (And.intro rfl (And.intro rfl (And.intro rfl (And.intro rfl (And.intro rfl (And.intro rfl (And.intro rfl (And.intro rfl (And.intro trivial trivial))))))))))))))
        · refine And.intro ?_ trivial
          refine Or.inl ?_
          refine Or.inl ?_
          refine guardI hF (fun hF => ?_)
          refine Or.inl ?_
          refine Or.inl ?_
          obtain ⟨z7, hz7, hF⟩ := bindE hF
          refine loopI (Int × Int) Int (fun x => ⟨[(2, .dat (.int .u64) (IntKind.u64.wrap (y_ * 2 ^ min (Int.toNat (IntKind.u64.wrap q6_7)) (IntKind.bits IntKind.u64)))), (8, .dat (.int .u64) (IntKind.u64.wrap q6_7)), (9, .dat (.int .u64) (Int.fdiv (IntKind.u64.wrap (y_ * 2 ^ min (Int.toNat (IntKind.u64.wrap q6_7)) (IntKind.bits IntKind.u64))) (2 ^ min (Int.toNat (32 : Int)) (IntKind.bits IntKind.u64)))), (10, .dat (.int .u64) (bitsOf IntKind.u64 (fun p q => p &&& q) (IntKind.u64.wrap (y_ * 2 ^ min (Int.toNat (IntKind.u64.wrap q6_7)) (IntKind.bits IntKind.u64))) (4294967295 : Int))), (14, .dat (.int .u64) (bitsOf IntKind.u64 (fun p q => p &&& q) (IntKind.u64.wrap (lo * 2 ^ min (Int.toNat (IntKind.u64.wrap q6_7)) (IntKind.bits IntKind.u64))) (4294967295 : Int))), (15, .dat (.int .u64) z3), (16, .dat (.int .u64) x.1), (17, .dat (.int .u64) (IntKind.u64.wrap ((IntKind.u64.wrap ((IntKind.u64.wrap ((bitsOf IntKind.u64 (fun p q => p ||| q) (IntKind.u64.wrap (hi * 2 ^ min (Int.toNat (IntKind.u64.wrap q6_7)) (IntKind.bits IntKind.u64))) (Int.fdiv lo (2 ^ min (Int.toNat (IntKind.u64.wrap ((64 : Int) - (IntKind.u64.wrap q6_7)))) (IntKind.bits IntKind.u64)))) * (4294967296 : Int))) + (Int.fdiv (IntKind.u64.wrap (lo * 2 ^ min (Int.toNat (IntKind.u64.wrap q6_7)) (IntKind.bits IntKind.u64))) (2 ^ min (Int.toNat (32 : Int)) (IntKind.bits IntKind.u64))))) - (IntKind.u64.wrap (z3 * (IntKind.u64.wrap (y_ * 2 ^ min (Int.toNat (IntKind.u64.wrap q6_7)) (IntKind.bits IntKind.u64)))))))), (18, .dat (.int .u64) x.2)], [], 0⟩) (fun z => [(4, ⟨[(2, .dat (.int .u64) (IntKind.u64.wrap (y_ * 2 ^ min (Int.toNat (IntKind.u64.wrap q6_7)) (IntKind.bits IntKind.u64)))), (8, .dat (.int .u64) (IntKind.u64.wrap q6_7)), (14, .dat (.int .u64) (bitsOf IntKind.u64 (fun p q => p &&& q) (IntKind.u64.wrap (lo * 2 ^ min (Int.toNat (IntKind.u64.wrap q6_7)) (IntKind.bits IntKind.u64))) (4294967295 : Int))), (15, .dat (.int .u64) z3), (17, .dat (.int .u64) (IntKind.u64.wrap ((IntKind.u64.wrap ((IntKind.u64.wrap ((bitsOf IntKind.u64 (fun p q => p ||| q) (IntKind.u64.wrap (hi * 2 ^ min (Int.toNat (IntKind.u64.wrap q6_7)) (IntKind.bits IntKind.u64))) (Int.fdiv lo (2 ^ min (Int.toNat (IntKind.u64.wrap ((64 : Int) - (IntKind.u64.wrap q6_7)))) (IntKind.bits IntKind.u64)))) * (4294967296 : Int))) + (Int.fdiv (IntKind.u64.wrap (lo * 2 ^ min (Int.toNat (IntKind.u64.wrap q6_7)) (IntKind.bits IntKind.u64))) (2 ^ min (Int.toNat (32 : Int)) (IntKind.bits IntKind.u64))))) - (IntKind.u64.wrap (z3 * (IntKind.u64.wrap (y_ * 2 ^ min (Int.toNat (IntKind.u64.wrap q6_7)) (IntKind.bits IntKind.u64)))))))), (18, .dat (.int .u64) z)], [], 0⟩)]) (loopF (fun go x => f211_l7 lo y_ q6_7 go x.1 x.2)) fuelN ((IntKind.u64.wrap ((IntKind.u64.wrap ((IntKind.u64.wrap ((IntKind.u64.wrap ((bitsOf IntKind.u64 (fun p q => p ||| q) (IntKind.u64.wrap (hi * 2 ^ min (Int.toNat (IntKind.u64.wrap q6_7)) (IntKind.bits IntKind.u64))) (Int.fdiv lo (2 ^ min (Int.toNat (IntKind.u64.wrap ((64 : Int) - (IntKind.u64.wrap q6_7)))) (IntKind.bits IntKind.u64)))) * (4294967296 : Int))) + (Int.fdiv (IntKind.u64.wrap (lo * 2 ^ min (Int.toNat (IntKind.u64.wrap q6_7)) (IntKind.bits IntKind.u64))) (2 ^ min (Int.toNat (32 : Int)) (IntKind.bits IntKind.u64))))) - (IntKind.u64.wrap (z3 * (IntKind.u64.wrap (y_ * 2 ^ min (Int.toNat (IntKind.u64.wrap q6_7)) (IntKind.bits IntKind.u64))))))) - (IntKind.u64.wrap ((IntKind.u64.wrap (Int.tdiv (IntKind.u64.wrap ((IntKind.u64.wrap ((IntKind.u64.wrap ((bitsOf IntKind.u64 (fun p q => p ||| q) (IntKind.u64.wrap (hi * 2 ^ min (Int.toNat (IntKind.u64.wrap q6_7)) (IntKind.bits IntKind.u64))) (Int.fdiv lo (2 ^ min (Int.toNat (IntKind.u64.wrap ((64 : Int) - (IntKind.u64.wrap q6_7)))) (IntKind.bits IntKind.u64)))) * (4294967296 : Int))) + (Int.fdiv (IntKind.u64.wrap (lo * 2 ^ min (Int.toNat (IntKind.u64.wrap q6_7)) (IntKind.bits IntKind.u64))) (2 ^ min (Int.toNat (32 : Int)) (IntKind.bits IntKind.u64))))) - (IntKind.u64.wrap (z3 * (IntKind.u64.wrap (y_ * 2 ^ min (Int.toNat (IntKind.u64.wrap q6_7)) (IntKind.bits IntKind.u64))))))) (Int.fdiv (IntKind.u64.wrap (y_ * 2 ^ min (Int.toNat (IntKind.u64.wrap q6_7)) (IntKind.bits IntKind.u64))) (2 ^ min (Int.toNat (32 : Int)) (IntKind.bits IntKind.u64))))) * (Int.fdiv (IntKind.u64.wrap (y_ * 2 ^ min (Int.toNat (IntKind.u64.wrap q6_7)) (IntKind.bits IntKind.u64))) (2 ^ min (Int.toNat (32 : Int)) (IntKind.bits IntKind.u64))))))), (IntKind.u64.wrap (Int.tdiv (IntKind.u64.wrap ((IntKind.u64.wrap ((IntKind.u64.wrap ((bitsOf IntKind.u64 (fun p q => p ||| q) (IntKind.u64.wrap (hi * 2 ^ min (Int.toNat (IntKind.u64.wrap q6_7)) (IntKind.bits IntKind.u64))) (Int.fdiv lo (2 ^ min (Int.toNat (IntKind.u64.wrap ((64 : Int) - (IntKind.u64.wrap q6_7)))) (IntKind.bits IntKind.u64)))) * (4294967296 : Int))) + (Int.fdiv (IntKind.u64.wrap (lo * 2 ^ min (Int.toNat (IntKind.u64.wrap q6_7)) (IntKind.bits IntKind.u64))) (2 ^ min (Int.toNat (32 : Int)) (IntKind.bits IntKind.u64))))) - (IntKind.u64.wrap (z3 * (IntKind.u64.wrap (y_ * 2 ^ min (Int.toNat (IntKind.u64.wrap q6_7)) (IntKind.bits IntKind.u64))))))) (Int.fdiv (IntKind.u64.wrap (y_ * 2 ^ min (Int.toNat (IntKind.u64.wrap q6_7)) (IntKind.bits IntKind.u64))) (2 ^ min (Int.toNat (32 : Int)) (IntKind.bits IntKind.u64)))))) z7 (And.intro hz7 (And.intro (Exists.intro [] (Exists.intro [] (Exists.intro [] (Exists.intro [] (Exists.intro [] (And.intro rfl (And.intro rfl (And.intro rfl (And.intro rfl (And.intro rfl (And.intro rfl (And.intro rfl (And.intro rfl (And.intro rfl (And.intro rfl (And.intro trivial trivial)))))))))))))))) (And.intro (fun _ _ h => loopZ h) (And.intro (fun m => curI (fun rhat => fun q0 z hF => ?_)) ?_))))
          · have hF : f211_l7 lo y_ q6_7 (loopF (fun go x => f211_l7 lo y_ q6_7 go x.1 x.2) m) rhat q0 = some z := hF
            unfold f211_l7 at hF
            obtain ⟨z8, hz8, hF⟩ := bindE hF
            refine Or.inr ⟨Sum.elim (fun z8a => [(0, ⟨[(2, .dat (.int .u64) (IntKind.u64.wrap (y_ * 2 ^ min (Int.toNat (IntKind.u64.wrap q6_7)) (IntKind.bits IntKind.u64)))), (8, .dat (.int .u64) (IntKind.u64.wrap q6_7)), (9, .dat (.int .u64) (Int.fdiv (IntKind.u64.wrap (y_ * 2 ^ min (Int.toNat (IntKind.u64.wrap q6_7)) (IntKind.bits IntKind.u64))) (2 ^ min (Int.toNat (32 : Int)) (IntKind.bits IntKind.u64)))), (10, .dat (.int .u64) (bitsOf IntKind.u64 (fun p q => p &&& q) (IntKind.u64.wrap (y_ * 2 ^ min (Int.toNat (IntKind.u64.wrap q6_7)) (IntKind.bits IntKind.u64))) (4294967295 : Int))), (14, .dat (.int .u64) (bitsOf IntKind.u64 (fun p q => p &&& q) (IntKind.u64.wrap (lo * 2 ^ min (Int.toNat (IntKind.u64.wrap q6_7)) (IntKind.bits IntKind.u64))) (4294967295 : Int))), (15, .dat (.int .u64) z3), (16, .dat (.int .u64) rhat), (17, .dat (.int .u64) (IntKind.u64.wrap ((IntKind.u64.wrap ((IntKind.u64.wrap ((bitsOf IntKind.u64 (fun p q => p ||| q) (IntKind.u64.wrap (hi * 2 ^ min (Int.toNat (IntKind.u64.wrap q6_7)) (IntKind.bits IntKind.u64))) (Int.fdiv lo (2 ^ min (Int.toNat (IntKind.u64.wrap ((64 : Int) - (IntKind.u64.wrap q6_7)))) (IntKind.bits IntKind.u64)))) * (4294967296 : Int))) + (Int.fdiv (IntKind.u64.wrap (lo * 2 ^ min (Int.toNat (IntKind.u64.wrap q6_7)) (IntKind.bits IntKind.u64))) (2 ^ min (Int.toNat (32 : Int)) (IntKind.bits IntKind.u64))))) - (IntKind.u64.wrap (z3 * (IntKind.u64.wrap (y_ * 2 ^ min (Int.toNat (IntKind.u64.wrap q6_7)) (IntKind.bits IntKind.u64)))))))), (18, .dat (.int .u64) q0)], [], 0⟩)]) (fun z8b => [(4, ⟨[(2, .dat (.int .u64) (IntKind.u64.wrap (y_ * 2 ^ min (Int.toNat (IntKind.u64.wrap q6_7)) (IntKind.bits IntKind.u64)))), (8, .dat (.int .u64) (IntKind.u64.wrap q6_7)), (14, .dat (.int .u64) (bitsOf IntKind.u64 (fun p q => p &&& q) (IntKind.u64.wrap (lo * 2 ^ min (Int.toNat (IntKind.u64.wrap q6_7)) (IntKind.bits IntKind.u64))) (4294967295 : Int))), (15, .dat (.int .u64) z3), (17, .dat (.int .u64) (IntKind.u64.wrap ((IntKind.u64.wrap ((IntKind.u64.wrap ((bitsOf IntKind.u64 (fun p q => p ||| q) (IntKind.u64.wrap (hi * 2 ^ min (Int.toNat (IntKind.u64.wrap q6_7)) (IntKind.bits IntKind.u64))) (Int.fdiv lo (2 ^ min (Int.toNat (IntKind.u64.wrap ((64 : Int) - (IntKind.u64.wrap q6_7)))) (IntKind.bits IntKind.u64)))) * (4294967296 : Int))) + (Int.fdiv (IntKind.u64.wrap (lo * 2 ^ min (Int.toNat (IntKind.u64.wrap q6_7)) (IntKind.bits IntKind.u64))) (2 ^ min (Int.toNat (32 : Int)) (IntKind.bits IntKind.u64))))) - (IntKind.u64.wrap (z3 * (IntKind.u64.wrap (y_ * 2 ^ min (Int.toNat (IntKind.u64.wrap q6_7)) (IntKind.bits IntKind.u64)))))))), (18, .dat (.int .u64) q0)], [], 0⟩)]) z8, ?_, ?_⟩
            · have hF := hz8
              clear hz8
              unfold f211_j8 at hF
              refine Or.inl ?_
              refine condN hF (fun hF => ?_) (fun hF => ?_)
              · refine gdYF ?_
                refine gdYF ?_
                refine gdYF ?_
                refine gdYF ?_
                refine gdYF ?_
                refine gdYF ?_
                refine gdYF ?_
                refine condF ?_
                refine condI hF (fun hF => ?_) (fun hF => ?_)
                · have hz := someE hF
                  subst hz
                  refine Exists.intro [] (Exists.intro [] (Exists.intro [] (Exists.intro [] (Exists.intro [] (And.intro rfl (And.intro rfl (And.intro rfl (And.intro rfl (And.intro rfl (And.intro rfl (And.intro rfl (And.intro rfl (And.intro rfl (And.intro rfl (And.intro trivial trivial)))))))))))))))
                · have hz := someE hF
                  subst hz
                  refine Exists.intro [] (Exists.intro [] (Exists.intro [] (Exists.intro [] (Exists.intro [] (And.intro rfl (And.intro rfl (And.intro rfl (And.intro rfl (And.intro rfl (And.intro rfl (And.intro rfl (And.intro trivial trivial))))))))))))
              · refine gdNF ?_
                refine gdNF ?_
                refine gdNF ?_
                refine gdNF ?_
                refine gdNF ?_
                refine gdNF ?_
                refine gdNF ?_
                refine condT ?_
                refine condT ?_
                have hz := someE hF
                subst hz
                refine Exists.intro [] (Exists.intro [] (Exists.intro [] (Exists.intro [] (Exists.intro [] (And.intro rfl (And.intro rfl (And.intro rfl (And.intro rfl (And.intro rfl (And.intro rfl (And.intro rfl (And.intro rfl (And.intro rfl (And.intro rfl (And.intro trivial trivial)))))))))))))))
            · rcases z8 with z8a | z8b
              · dsimp only [sumF] at hF
                refine And.intro ?_ trivial
                refine Or.inl ?_
                refine Or.inl ?_
                refine Or.inl ?_
                refine condI hF (fun hF => ?_) (fun hF => ?_)
                · have hz := someE hF
                  subst hz
                  refine Exists.intro [] (Exists.intro [] (Exists.intro [] (Exists.intro [] (Exists.intro [] (And.intro rfl (And.intro rfl (And.intro rfl (And.intro rfl (And.intro rfl (And.intro rfl (And.intro rfl (And.intro trivial trivial))))))))))))
                · refine Exists.intro ((IntKind.u64.wrap (rhat + (Int.fdiv (IntKind.u64.wrap (y_ * 2 ^ min (Int.toNat (IntKind.u64.wrap q6_7)) (IntKind.bits IntKind.u64))) (2 ^ min (Int.toNat (32 : Int)) (IntKind.bits IntKind.u64))))), (IntKind.u64.wrap (q0 - (1 : Int)))) (And.intro hF (Exists.intro [] (Exists.intro [] (Exists.intro [] (Exists.intro [] (Exists.intro [] (And.intro rfl (And.intro rfl (And.intro rfl (And.intro rfl (And.intro rfl (And.intro rfl (And.intro rfl (And.intro rfl (And.intro rfl (And.intro rfl (And.intro trivial trivial)))))))))))))))))
              · dsimp only [sumF] at hF
                refine And.intro ?_ trivial
                have hz := someE hF
                subst hz
                refine Exists.intro [] (Exists.intro [] (Exists.intro [] (Exists.intro [] (Exists.intro [] (And.intro rfl (And.intro rfl (And.intro rfl (And.intro rfl (And.intro rfl (And.intro rfl (And.intro rfl (And.intro trivial trivial))))))))))))
          · refine And.intro ?_ trivial
            refine Or.inl ?_
            refine guardI hF (fun hF => ?_)
            have hy := someE hF
            subst hy
            refine And.intro rfl (Exists.intro [] (Exists.intro [] (Exists.intro [] (Exists.intro [] (Exists.intro [] (And.intro rfl (And.intro rfl (And.intro rfl (And.intro trivial trivial)))))))))
theorem C211_holds : C211.Holds Tryz.prog 211 := holds_of_vc tab_ok mixed (fn := Tryz.f211) (by kernel_rfl) rfl C211 (fun x y hF => C211_vc x.1 x.2.1 x.2.2 y hF)
theorem f211_in : ∃ fn, Tryz.prog.funcs[211]? = some fn ∧ fn.body.isSome = true ∧ (fn.name == "runtime.NumGoroutine") = false := ⟨Tryz.f211, by kernel_rfl, by kernel_rfl, by kernel_rfl⟩
end Go.Proofs
namespace Go.Proofs
open Go.AM
-- carousel/fix.Div
def f207_j3 (r2 : Int) (r4 : Int × Int) : Option Bool :=
  bif (decide (r4.2 > (IntKind.u64.wrap (r2 - r4.2)))) then
    some true
  else
    bif (r4.2 == (IntKind.u64.wrap (r2 - r4.2))) then
      some ((bitsOf IntKind.u64 (fun p q => p &&& q) r4.1 (1 : Int)) == (1 : Int))
    else
      some false
def f207_j2 (r2 : Int) (r4 : Int × Int) : Option (Int × Int) :=
  bindF (f207_j3 r2 r4) fun z8 =>
  bif z8 then
    bindF (add64 r4.1 (1 : Int) (0 : Int)) fun r9 =>
    some (r9.1, r9.2)
  else
    some (r4.1, (0 : Int))
def f207 (a : Int) (b : Int) : Option Int :=
  bif (b == (0 : Int)) then
    bif (decide (a > (0 : Int))) then
      some (9223372036854775807 : Int)
    else
      bif (decide (a < (0 : Int))) then
        some (-9223372036854775808 : Int)
      else
        some (0 : Int)
  else
    bindF (f198 a) fun r1 =>
    bindF (f198 b) fun r2 =>
    bif (decide ((Int.fdiv r1 (2 ^ min (Int.toNat (32 : Int)) (IntKind.bits IntKind.u64))) ≥ r2)) then
      bindF (f200 (1 : Int) (0 : Int) (!((decide (a < (0 : Int))) == (decide (b < (0 : Int)))))) fun r3 =>
      some r3
    else
      bindF (f211 (Int.fdiv r1 (2 ^ min (Int.toNat (32 : Int)) (IntKind.bits IntKind.u64))) (IntKind.u64.wrap (r1 * 2 ^ min (Int.toNat (32 : Int)) (IntKind.bits IntKind.u64))) r2) fun r4 =>
      bindF (f207_j2 r2 r4) fun z7 =>
      bindF (f200 z7.2 z7.1 (!((decide (a < (0 : Int))) == (decide (b < (0 : Int)))))) fun r10 =>
      some r10
def C207 : Con where
  X := Int × Int
  Y := Int
  e := 0
  args x := [.dat (.int .i64) x.1, .dat (.int .i64) x.2]
  hin x := []
  F x := f207 x.1 x.2
  ret y := [.dat (.int .i64) y]
  hout y := []
  nout := 0
theorem C207_vc (a : Int) (b : Int) (y : Int) (hF : f207 a b = some y) : vc Tryz.prog tab Tryz.f207.ntmps 0 (match Tryz.f207.body with | some c => c | none => .skip) (retK tab C207 Tryz.f207.results.toList y) (C207.shIn (a, b)).st := by
  unfold f207 at hF
  refine Or.inl ?_
  refine Or.inl ?_
  refine Or.inl ?_
  refine condI hF (fun hF => ?_) (fun hF => ?_)
  · refine Or.inl ?_
    refine Or.inl ?_
    refine condI hF (fun hF => ?_) (fun hF => ?_)
    · refine Or.inl ?_
      have hy := someE hF
      subst hy
      refine And.intro rfl (Exists.intro [] (Exists.intro [] (Exists.intro [] (Exists.intro [] (Exists.intro [] (And.intro rfl (And.intro rfl (And.intro trivial trivial))))))))
    · refine Or.inl ?_
      refine condI hF (fun hF => ?_) (fun hF => ?_)
      · refine Or.inl ?_
        have hy := someE hF
        subst hy
        refine And.intro rfl (Exists.intro [] (Exists.intro [] (Exists.intro [] (Exists.intro [] (Exists.intro [] (And.intro rfl (And.intro rfl (And.intro trivial trivial))))))))
      · refine Or.inl ?_
        have hy := someE hF
        subst hy
        refine And.intro rfl (Exists.intro [] (Exists.intro [] (Exists.intro [] (Exists.intro [] (Exists.intro [] (And.intro rfl (And.intro rfl (And.intro trivial trivial))))))))
  · refine Or.inl ?_
    obtain ⟨r1, hr1, hF⟩ := bindE hF
    refine Or.inl (And.intro f198_in (callV0 (callI C198 a r1 [] false C198_holds hr1 rfl rfl ?_)))
    refine (And.intro rfl (And.intro (fun h => nomatch h) (And.intro rfl (And.intro rfl (And.intro trivial (And.intro trivial ?_))))))
    obtain ⟨r2, hr2, hF⟩ := bindE hF
    refine Or.inl (And.intro f198_in (callV0 (callI C198 b r2 [] false C198_holds hr2 rfl rfl ?_)))
    refine (And.intro rfl (And.intro (fun h => nomatch h) (And.intro rfl (And.intro rfl (And.intro trivial (And.intro trivial ?_))))))
    refine Or.inl ?_
    refine Or.inl ?_
    refine And.intro (by decide) ?_
    refine And.intro (by decide) ?_
    refine Or.inl ?_
    refine Or.inl ?_
    refine condI hF (fun hF => ?_) (fun hF => ?_)
    · refine Or.inl ?_
      obtain ⟨r3, hr3, hF⟩ := bindE hF
      refine Or.inl (And.intro f200_in (callV0 (callI C200 ((1 : Int), (0 : Int), (!((decide (a < (0 : Int))) == (decide (b < (0 : Int)))))) r3 [] false C200_holds hr3 rfl rfl ?_)))
      refine (And.intro rfl (And.intro rfl (And.intro rfl (And.intro (fun h => nomatch h) (And.intro rfl (And.intro rfl (And.intro trivial (And.intro trivial ?_))))))))
      have hy := someE hF
      subst hy
      refine And.intro rfl (Exists.intro [] (Exists.intro [] (Exists.intro [] (Exists.intro [] (Exists.intro [] (And.intro rfl (And.intro rfl (And.intro trivial trivial))))))))
    · refine Or.inl ?_
      obtain ⟨r4, hr4, hF⟩ := bindE hF
      refine Or.inl (And.intro f211_in (callV0 (callI C211 ((Int.fdiv r1 (2 ^ min (Int.toNat (32 : Int)) (IntKind.bits IntKind.u64))), (IntKind.u64.wrap (r1 * 2 ^ min (Int.toNat (32 : Int)) (IntKind.bits IntKind.u64))), r2) r4 [] false C211_holds hr4 rfl rfl ?_)))
      refine (And.intro rfl (And.intro rfl (And.intro rfl (And.intro (fun h => nomatch h) (And.intro rfl (And.intro rfl (And.intro trivial (And.intro trivial ?_))))))))
      refine Or.inl ?_
      obtain ⟨z7, hz7, hF⟩ := bindE hF
      refine Or.inr ⟨[(0, ⟨[(7, .dat .bool (!((decide (a < (0 : Int))) == (decide (b < (0 : Int)))))), (10, .dat (.int .u64) z7.1), (12, .dat (.int .u64) z7.2)], [], 0⟩)], ?_, ?_⟩
      · have hF := hz7
        clear hz7
        unfold f207_j2 at hF
        obtain ⟨z8, hz8, hF⟩ := bindE hF
        refine Or.inr ⟨[(0, ⟨[(7, .dat .bool (!((decide (a < (0 : Int))) == (decide (b < (0 : Int)))))), (10, .dat (.int .u64) r4.1), (12, .dat (.int .u64) (0 : Int)), (62, .dat .bool z8)], [], 0⟩)], ?_, ?_⟩
        · have hF := hz8
          clear hz8
          unfold f207_j3 at hF
          refine condN hF (fun hF => ?_) (fun hF => ?_)
          · refine gdYF ?_
            refine gdYF ?_
            refine gdYF ?_
            refine gdYF ?_
            refine gdYF ?_
            refine condI hF (fun hF => ?_) (fun hF => ?_)
            · refine gdYT ?_
              refine gdYT ?_
              refine gdYF ?_
              refine condT ?_
              refine condF ?_
              have hz := someE hF
              subst hz
              refine Exists.intro [] (Exists.intro [] (Exists.intro [] (Exists.intro [] (Exists.intro [] (And.intro rfl (And.intro rfl (And.intro rfl (And.intro rfl (And.intro rfl (And.intro trivial trivial))))))))))
            · refine gdNT ?_
              refine gdNT ?_
              refine gdYF ?_
              refine condF ?_
              refine condF ?_
              have hz := someE hF
              subst hz
              refine Exists.intro [] (Exists.intro [] (Exists.intro [] (Exists.intro [] (Exists.intro [] (And.intro rfl (And.intro rfl (And.intro rfl (And.intro rfl (And.intro rfl (And.intro trivial trivial))))))))))
          · refine gdNF ?_
            refine gdNF ?_
            refine gdNF ?_
            refine gdNF ?_
            refine gdNF ?_
            refine gdNF ?_
            refine condT ?_
            have hz := someE hF
            subst hz
            refine Exists.intro [] (Exists.intro [] (Exists.intro [] (Exists.intro [] (Exists.intro [] (And.intro rfl (And.intro rfl (And.intro rfl (And.intro rfl (And.intro rfl (And.intro trivial trivial))))))))))
        · refine And.intro ?_ trivial
          refine condI hF (fun hF => ?_) (fun hF => ?_)
          · obtain ⟨r9, hr9, hF⟩ := bindE hF
            refine Or.inr ⟨ext3 add64, [r9.1, r9.2], add64_ok, And.intro (ext3I hr9) ?_⟩
            have hz := someE hF
            subst hz
            refine Exists.intro [] (Exists.intro [] (Exists.intro [] (Exists.intro [] (Exists.intro [] (And.intro rfl (And.intro rfl (And.intro rfl (And.intro rfl (And.intro trivial trivial)))))))))
          · have hz := someE hF
            subst hz
            refine Exists.intro [] (Exists.intro [] (Exists.intro [] (Exists.intro [] (Exists.intro [] (And.intro rfl (And.intro rfl (And.intro rfl (And.intro rfl (And.intro trivial trivial)))))))))
      · refine And.intro ?_ trivial
        refine Or.inl ?_
        obtain ⟨r10, hr10, hF⟩ := bindE hF
        refine Or.inl (And.intro f200_in (callV0 (callI C200 (z7.2, z7.1, (!((decide (a < (0 : Int))) == (decide (b < (0 : Int)))))) r10 [] false C200_holds hr10 rfl rfl ?_)))
        refine (And.intro rfl (And.intro rfl (And.intro rfl (And.intro (fun h => nomatch h) (And.intro rfl (And.intro rfl (And.intro trivial (And.intro trivial ?_))))))))
        have hy := someE hF
        subst hy
        refine And.intro rfl (Exists.intro [] (Exists.intro [] (Exists.intro [] (Exists.intro [] (Exists.intro [] (And.intro rfl (And.intro rfl (And.intro trivial trivial))))))))
theorem C207_holds : C207.Holds Tryz.prog 207 := holds_of_vc tab_ok mixed (fn := Tryz.f207) (by kernel_rfl) rfl C207 (fun x y hF => C207_vc x.1 x.2 y hF)
theorem f207_in : ∃ fn, Tryz.prog.funcs[207]? = some fn ∧ fn.body.isSome = true ∧ (fn.name == "runtime.NumGoroutine") = false := ⟨Tryz.f207, by kernel_rfl, by kernel_rfl, by kernel_rfl⟩
end Go.Proofs
namespace Go.Proofs
open Go.AM
-- carousel/wide.magnitude
def f209 (a : Int × Int) : Option (Int × Int × Bool) :=
  bif (decide (a.1 < (0 : Int))) then
    bindF (f212 (a.1, a.2)) fun q4_7 =>
    some ((IntKind.u64.wrap q4_7.1), q4_7.2, true)
  else
    some ((IntKind.u64.wrap a.1), a.2, false)
def C209 : Con where
  X := Int × Int
  Y := Int × Int × Bool
  e := 0
  args x := [.dat (.p (.int .i64) (.int .u64)) x]
  hin x := []
  F x := f209 x
  ret y := [.dat (.int .u64) y.1, .dat (.int .u64) y.2.1, .dat .bool y.2.2]
  hout y := []
  nout := 0
theorem C209_vc (a : Int × Int) (y : Int × Int × Bool) (hF : f209 a = some y) : vc Tryz.prog tab Tryz.f209.ntmps 0 (match Tryz.f209.body with | some c => c | none => .skip) (retK tab C209 Tryz.f209.results.toList y) (C209.shIn a).st := by
  unfold f209 at hF
  refine Or.inl ?_
  refine Or.inl ?_
  refine Or.inl ?_
  refine condI hF (fun hF => ?_) (fun hF => ?_)
  · refine Or.inl ?_
    obtain ⟨q4_7, hq4_7, hF⟩ := bindE hF
    refine Or.inl (And.intro f212_in (callV0 (callI C212 (a.1, a.2) q4_7 [] false C212_holds hq4_7 rfl rfl ?_)))
    refine (And.intro rfl (And.intro rfl (And.intro (fun h => nomatch h) (And.intro rfl (And.intro rfl (And.intro trivial (And.intro trivial ?_)))))))
    refine Or.inl ?_
    refine Or.inl ?_
    refine Exists.intro (.take 0 (.take 1 (.take 2 (.take 3 (.take 4 (.take 5 (.take 6 (.take 7 .done)))))))) (Exists.intro [] (Exists.intro [] (And.intro rfl ?_)))
    have hy := someE hF
    subst hy
    refine And.intro rfl (Exists.intro [] (Exists.intro [] (Exists.intro [] (Exists.intro [] (Exists.intro [] (And.intro rfl (And.intro rfl (And.intro rfl (And.intro rfl (And.intro trivial trivial))))))))))
  · refine Or.inl ?_
    refine Exists.intro (.take 0 (.take 1 (.take 2 (.take 3 (.take 4 (.take 5 (.take 6 (.take 7 .done)))))))) (Exists.intro [] (Exists.intro [] (And.intro rfl ?_)))
    have hy := someE hF
    subst hy
    refine And.intro rfl (Exists.intro [] (Exists.intro [] (Exists.intro [] (Exists.intro [] (Exists.intro [] (And.intro rfl (And.intro rfl (And.intro rfl (And.intro rfl (And.intro trivial trivial))))))))))
theorem C209_holds : C209.Holds Tryz.prog 209 := holds_of_vc tab_ok mixed (fn := Tryz.f209) (by kernel_rfl) rfl C209 (fun x y hF => C209_vc x y hF)
theorem f209_in : ∃ fn, Tryz.prog.funcs[209]? = some fn ∧ fn.body.isSome = true ∧ (fn.name == "runtime.NumGoroutine") = false := ⟨Tryz.f209, by kernel_rfl, by kernel_rfl, by kernel_rfl⟩
end Go.Proofs
namespace Go.Proofs
open Go.AM
-- carousel/wide.Over
def f184_j3 (r4 : Int) (q6_7 : Int × Int) : Option Bool :=
  bif (decide (q6_7.2 > (IntKind.u64.wrap (r4 - q6_7.2)))) then
    some true
  else
    bif (q6_7.2 == (IntKind.u64.wrap (r4 - q6_7.2))) then
      some ((bitsOf IntKind.u64 (fun p q => p &&& q) q6_7.1 (1 : Int)) == (1 : Int))
    else
      some false
def f184_j2 (r3 : Int × Int × Bool) (r4 : Int) (q6_7 : Int × Int) : Option (Int × Int) :=
  bindF (f184_j3 r4 q6_7) fun z8 =>
  bif z8 then
    bindF (add64 q6_7.1 (1 : Int) (0 : Int)) fun r9 =>
    some ((IntKind.u64.wrap ((IntKind.u64.wrap (Int.tdiv r3.1 r4)) + r9.2)), r9.1)
  else
    some ((IntKind.u64.wrap (Int.tdiv r3.1 r4)), q6_7.1)
def f184 (a : Int × Int) (n : Int) : Option Int :=
  bif (n == (0 : Int)) then
    bindF (f208 (a.1, a.2) ((0 : Int), (0 : Int))) fun r1 =>
    bindF (f207 r1 (0 : Int)) fun r2 =>
    some r2
  else
    bindF (f209 (a.1, a.2)) fun r3 =>
    bindF (f210 n) fun r4 =>
    guardF (r4 ≠ 0) <|
    guardF (r4 ≠ 0) <|
    bindF (f211 (Int.tmod r3.1 r4) r3.2.1 r4) fun q6_7 =>
    bindF (f184_j2 r3 r4 q6_7) fun z7 =>
    bif (!(r3.2.2 == (decide (n < (0 : Int))))) then
      bindF (f212 ((IntKind.i64.wrap (if (9223372036854775807 : Int) < z7.1 then (9223372036854775807 : Int) else z7.1)), z7.2)) fun r10 =>
      bindF (f182 (r10.1, r10.2)) fun r11 =>
      some r11
    else
      bindF (f182 ((IntKind.i64.wrap (if (9223372036854775807 : Int) < z7.1 then (9223372036854775807 : Int) else z7.1)), z7.2)) fun r12 =>
      some r12
def C184 : Con where
  X := (Int × Int) × Int
  Y := Int
  e := 0
  args x := [.dat (.p (.int .i64) (.int .u64)) x.1, .dat (.int .i64) x.2]
  hin x := []
  F x := f184 x.1 x.2
  ret y := [.dat (.int .i64) y]
  hout y := []
  nout := 0
theorem C184_vc (a : Int × Int) (n : Int) (y : Int) (hF : f184 a n = some y) : vc Tryz.prog tab Tryz.f184.ntmps 0 (match Tryz.f184.body with | some c => c | none => .skip) (retK tab C184 Tryz.f184.results.toList y) (C184.shIn (a, n)).st := by
  unfold f184 at hF
  refine Or.inl ?_
  refine Or.inl ?_
  refine Or.inl ?_
  refine condI hF (fun hF => ?_) (fun hF => ?_)
  · refine Or.inl ?_
    obtain ⟨r1, hr1, hF⟩ := bindE hF
    refine Or.inl (And.intro f208_in (callV0 (callI C208 ((a.1, a.2), ((0 : Int), (0 : Int))) r1 [] false C208_holds hr1 rfl rfl ?_)))
    refine (And.intro rfl (And.intro rfl (And.intro rfl (And.intro rfl (And.intro (fun h => nomatch h) (And.intro rfl (And.intro rfl (And.intro trivial (And.intro trivial ?_)))))))))
    obtain ⟨r2, hr2, hF⟩ := bindE hF
    refine Or.inl (And.intro f207_in (callV0 (callI C207 (r1, (0 : Int)) r2 [] false C207_holds hr2 rfl rfl ?_)))
    refine (And.intro rfl (And.intro rfl (And.intro (fun h => nomatch h) (And.intro rfl (And.intro rfl (And.intro trivial (And.intro trivial ?_)))))))
    have hy := someE hF
    subst hy
    refine And.intro rfl (Exists.intro [] (Exists.intro [] (Exists.intro [] (Exists.intro [] (Exists.intro [] (And.intro rfl (And.intro rfl (And.intro trivial trivial))))))))
  · refine Or.inl ?_
    obtain ⟨r3, hr3, hF⟩ := bindE hF
    refine Or.inl (And.intro f209_in (callV0 (callI C209 (a.1, a.2) r3 [] false C209_holds hr3 rfl rfl ?_)))
    refine (And.intro rfl (And.intro rfl (And.intro (fun h => nomatch h) (And.intro rfl (And.intro rfl (And.intro trivial (And.intro trivial ?_)))))))
    refine Or.inl ?_
    obtain ⟨r4, hr4, hF⟩ := bindE hF
    refine Or.inl (And.intro f210_in (callV0 (callI C210 n r4 [] false C210_holds hr4 rfl rfl ?_)))
    refine (And.intro rfl (And.intro (fun h => nomatch h) (And.intro rfl (And.intro rfl (And.intro trivial (And.intro trivial ?_))))))
    refine Or.inl ?_
    refine Or.inl ?_
    refine Exists.intro (.take 0 (.take 1 (.take 2 (.take 3 (.take 4 (.take 5 (.take 6 (.take 7 .done)))))))) (Exists.intro [] (Exists.intro [] (And.intro rfl ?_)))
    refine guardI hF (fun hF => ?_)
    refine guardI hF (fun hF => ?_)
    refine Or.inl ?_
    obtain ⟨q6_7, hq6_7, hF⟩ := bindE hF
    refine Or.inl (And.intro f211_in (callV0 (callI C211 ((Int.tmod r3.1 r4), r3.2.1, r4) q6_7 [] false C211_holds hq6_7 rfl rfl ?_)))
    refine (And.intro rfl (And.intro rfl (And.intro rfl (And.intro (fun h => nomatch h) (And.intro rfl (And.intro rfl (And.intro trivial (And.intro trivial ?_))))))))
    obtain ⟨z7, hz7, hF⟩ := bindE hF
    refine Or.inr ⟨[(0, ⟨[(7, .dat .bool (!(r3.2.2 == (decide (n < (0 : Int)))))), (9, .dat (.int .u64) z7.1), (11, .dat (.int .u64) z7.2)], [], 0⟩)], ?_, ?_⟩
    · have hF := hz7
      clear hz7
      unfold f184_j2 at hF
      obtain ⟨z8, hz8, hF⟩ := bindE hF
      refine Or.inr ⟨[(0, ⟨[(7, .dat .bool (!(r3.2.2 == (decide (n < (0 : Int)))))), (9, .dat (.int .u64) (IntKind.u64.wrap (Int.tdiv r3.1 r4))), (11, .dat (.int .u64) q6_7.1), (61, .dat .bool z8)], [], 0⟩)], ?_, ?_⟩
      · have hF := hz8
        clear hz8
        unfold f184_j3 at hF
        refine condN hF (fun hF => ?_) (fun hF => ?_)
        · refine gdYF ?_
          refine gdYF ?_
          refine gdYF ?_
          refine gdYF ?_
          refine gdYF ?_
          refine condI hF (fun hF => ?_) (fun hF => ?_)
          · refine gdYT ?_
            refine gdYT ?_
            refine gdYF ?_
            refine condT ?_
            refine condF ?_
            have hz := someE hF
            subst hz
            refine Exists.intro [] (Exists.intro [] (Exists.intro [] (Exists.intro [] (Exists.intro [] (And.intro rfl (And.intro rfl (And.intro rfl (And.intro rfl (And.intro rfl (And.intro trivial trivial))))))))))
          · refine gdNT ?_
            refine gdNT ?_
            refine gdYF ?_
            refine condF ?_
            refine condF ?_
            have hz := someE hF
            subst hz
            refine Exists.intro [] (Exists.intro [] (Exists.intro [] (Exists.intro [] (Exists.intro [] (And.intro rfl (And.intro rfl (And.intro rfl (And.intro rfl (And.intro rfl (And.intro trivial trivial))))))))))
        · refine gdNF ?_
          refine gdNF ?_
          refine gdNF ?_
          refine gdNF ?_
          refine gdNF ?_
          refine gdNF ?_
          refine condT ?_
          have hz := someE hF
          subst hz
          refine Exists.intro [] (Exists.intro [] (Exists.intro [] (Exists.intro [] (Exists.intro [] (And.intro rfl (And.intro rfl (And.intro rfl (And.intro rfl (And.intro rfl (And.intro trivial trivial))))))))))
      · refine And.intro ?_ trivial
        refine condI hF (fun hF => ?_) (fun hF => ?_)
        · refine Or.inl ?_
          refine Or.inl ?_
          obtain ⟨r9, hr9, hF⟩ := bindE hF
          refine Or.inr ⟨ext3 add64, [r9.1, r9.2], add64_ok, And.intro (ext3I hr9) ?_⟩
          have hz := someE hF
          subst hz
          refine Exists.intro [] (Exists.intro [] (Exists.intro [] (Exists.intro [] (Exists.intro [] (And.intro rfl (And.intro rfl (And.intro rfl (And.intro rfl (And.intro trivial trivial)))))))))
        · have hz := someE hF
          subst hz
          refine Exists.intro [] (Exists.intro [] (Exists.intro [] (Exists.intro [] (Exists.intro [] (And.intro rfl (And.intro rfl (And.intro rfl (And.intro rfl (And.intro trivial trivial)))))))))
    · refine And.intro ?_ trivial
      refine Or.inl ?_
      refine Or.inl ?_
      refine Or.inl ?_
      refine Or.inl ?_
      refine condI hF (fun hF => ?_) (fun hF => ?_)
      · refine Or.inl ?_
        obtain ⟨r10, hr10, hF⟩ := bindE hF
        refine Or.inl (And.intro f212_in (callV0 (callI C212 ((IntKind.i64.wrap (if (9223372036854775807 : Int) < z7.1 then (9223372036854775807 : Int) else z7.1)), z7.2) r10 [] false C212_holds hr10 rfl rfl ?_)))
        refine (And.intro rfl (And.intro rfl (And.intro (fun h => nomatch h) (And.intro rfl (And.intro rfl (And.intro trivial (And.intro trivial ?_)))))))
        obtain ⟨r11, hr11, hF⟩ := bindE hF
        refine Or.inl (And.intro f182_in (callV0 (callI C182 (r10.1, r10.2) r11 [] false C182_holds hr11 rfl rfl ?_)))
        refine (And.intro rfl (And.intro rfl (And.intro (fun h => nomatch h) (And.intro rfl (And.intro rfl (And.intro trivial (And.intro trivial ?_)))))))
        have hy := someE hF
        subst hy
        refine And.intro rfl (Exists.intro [] (Exists.intro [] (Exists.intro [] (Exists.intro [] (Exists.intro [] (And.intro rfl (And.intro rfl (And.intro trivial trivial))))))))
      · refine Or.inl ?_
        obtain ⟨r12, hr12, hF⟩ := bindE hF
        refine Or.inl (And.intro f182_in (callV0 (callI C182 ((IntKind.i64.wrap (if (9223372036854775807 : Int) < z7.1 then (9223372036854775807 : Int) else z7.1)), z7.2) r12 [] false C182_holds hr12 rfl rfl ?_)))
        refine (And.intro rfl (And.intro rfl (And.intro (fun h => nomatch h) (And.intro rfl (And.intro rfl (And.intro trivial (And.intro trivial ?_)))))))
        have hy := someE hF
        subst hy
        refine And.intro rfl (Exists.intro [] (Exists.intro [] (Exists.intro [] (Exists.intro [] (Exists.intro [] (And.intro rfl (And.intro rfl (And.intro trivial trivial))))))))
theorem C184_holds : C184.Holds Tryz.prog 184 := holds_of_vc tab_ok mixed (fn := Tryz.f184) (by kernel_rfl) rfl C184 (fun x y hF => C184_vc x.1 x.2 y hF)
theorem f184_in : ∃ fn, Tryz.prog.funcs[184]? = some fn ∧ fn.body.isSome = true ∧ (fn.name == "runtime.NumGoroutine") = false := ⟨Tryz.f184, by kernel_rfl, by kernel_rfl, by kernel_rfl⟩
end Go.Proofs
namespace Go.Proofs
open Go.AM
-- carousel/matm.Mean
def f148 (a : (List Int) × (List Int)) : Option (Int × Int) :=
  bindF (f91 (a.1, a.2)) fun q3_8 =>
  bif (!q3_8) then
    some ((0 : Int), (1 : Int))
  else
    bindF (f183 a.2) fun q3_2 =>
    bindF (f184 (q3_2.1, q3_2.2) (List.length a.2 : Int)) fun q3_6 =>
    some (q3_6, (0 : Int))
def C148 : Con where
  X := (List Int) × (List Int)
  Y := Int × Int
  e := 0
  args x := [.dat (.p (.sl (.int .i64)) (.sl (.int .i64))) x]
  hin x := []
  F x := f148 x
  ret y := [.dat (.int .i64) y.1, .dat (.int .i64) y.2]
  hout y := []
  nout := 0
theorem C148_vc (a : (List Int) × (List Int)) (y : Int × Int) (hF : f148 a = some y) : vc Tryz.prog tab Tryz.f148.ntmps 0 (match Tryz.f148.body with | some c => c | none => .skip) (retK tab C148 Tryz.f148.results.toList y) (C148.shIn a).st := by
  unfold f148 at hF
  refine Or.inl ?_
  refine Or.inl ?_
  refine Or.inl ?_
  obtain ⟨q3_8, hq3_8, hF⟩ := bindE hF
  refine Or.inl (And.intro f91_in (callV0 (callI C91 (a.1, a.2) q3_8 [] false C91_holds hq3_8 rfl rfl ?_)))
  refine (And.intro rfl (And.intro rfl (And.intro (fun h => nomatch h) (And.intro rfl (And.intro rfl (And.intro trivial (And.intro trivial ?_)))))))
  refine condI hF (fun hF => ?_) (fun hF => ?_)
  · refine Or.inl ?_
    have hy := someE hF
    subst hy
    refine And.intro rfl (Exists.intro [] (Exists.intro [] (Exists.intro [] (Exists.intro [] (Exists.intro [] (And.intro rfl (And.intro rfl (And.intro rfl (And.intro trivial trivial)))))))))
  · refine Or.inl ?_
    refine Exists.intro (.take 0 (.take 1 (.take 3 (.take 4 (.take 5 (.alt 2 (.alt 6 (.take 7 (.take 8 .done)) .done) .done)))))) (Exists.intro [] (Exists.intro [] (And.intro rfl ?_)))
    refine And.intro trivial ?_
    obtain ⟨q3_2, hq3_2, hF⟩ := bindE hF
    refine Or.inl (And.intro f183_in (callV0 (callI C183 a.2 q3_2 [] false C183_holds hq3_2 rfl rfl ?_)))
    refine (And.intro rfl (And.intro (fun h => nomatch h) (And.intro rfl (And.intro rfl (And.intro trivial (And.intro trivial ?_))))))
    refine And.intro trivial ?_
    obtain ⟨q3_6, hq3_6, hF⟩ := bindE hF
    refine Or.inl (And.intro f184_in (callV0 (callI C184 ((q3_2.1, q3_2.2), (List.length a.2 : Int)) q3_6 [] false C184_holds hq3_6 rfl rfl ?_)))
    refine (And.intro rfl (And.intro rfl (And.intro rfl (And.intro (fun h => nomatch h) (And.intro rfl (And.intro rfl (And.intro trivial (And.intro trivial ?_))))))))
    have hy := someE hF
    subst hy
    refine And.intro rfl (Exists.intro [] (Exists.intro [] (Exists.intro [] (Exists.intro [] (Exists.intro [] (And.intro rfl (And.intro rfl (And.intro rfl (And.intro trivial trivial)))))))))
theorem C148_holds : C148.Holds Tryz.prog 148 := holds_of_vc tab_ok mixed (fn := Tryz.f148) (by kernel_rfl) rfl C148 (fun x y hF => C148_vc x y hF)
theorem f148_in : ∃ fn, Tryz.prog.funcs[148]? = some fn ∧ fn.body.isSome = true ∧ (fn.name == "runtime.NumGoroutine") = false := ⟨Tryz.f148, by kernel_rfl, by kernel_rfl, by kernel_rfl⟩
end Go.Proofs
namespace Go.Proofs
open Go.AM
-- carousel/act.good
def f185 (kind : Int) : Option Bool :=
  bif (decide (kind ≥ (1 : Int))) then
    some (decide (kind ≤ (5 : Int)))
  else
    some false
def C185 : Con where
  X := Int
  Y := Bool
  e := 0
  args x := [.dat (.int .i64) x]
  hin x := []
  F x := f185 x
  ret y := [.dat .bool y]
  hout y := []
  nout := 0
theorem C185_vc (kind : Int) (y : Bool) (hF : f185 kind = some y) : vc Tryz.prog tab Tryz.f185.ntmps 0 (match Tryz.f185.body with | some c => c | none => .skip) (retK tab C185 Tryz.f185.results.toList y) (C185.shIn kind).st := by
  unfold f185 at hF
  refine Or.inl ?_
  refine Or.inl ?_
  refine condI hF (fun hF => ?_) (fun hF => ?_)
  · refine gdYT ?_
    refine condT ?_
    have hy := someE hF
    subst hy
    refine And.intro rfl (Exists.intro [] (Exists.intro [] (Exists.intro [] (Exists.intro [] (Exists.intro [] (And.intro rfl (And.intro rfl (And.intro trivial trivial))))))))
  · refine gdNT ?_
    refine condF ?_
    have hy := someE hF
    subst hy
    refine And.intro rfl (Exists.intro [] (Exists.intro [] (Exists.intro [] (Exists.intro [] (Exists.intro [] (And.intro rfl (And.intro rfl (And.intro trivial trivial))))))))
theorem C185_holds : C185.Holds Tryz.prog 185 := holds_of_vc tab_ok mixed (fn := Tryz.f185) (by kernel_rfl) rfl C185 (fun x y hF => C185_vc x y hF)
theorem f185_in : ∃ fn, Tryz.prog.funcs[185]? = some fn ∧ fn.body.isSome = true ∧ (fn.name == "runtime.NumGoroutine") = false := ⟨Tryz.f185, by kernel_rfl, by kernel_rfl, by kernel_rfl⟩
end Go.Proofs
namespace Go.Proofs
open Go.AM
-- carousel/fix.Of
def f213 (n : Int) : Option Int :=
  bif (decide (n ≥ (2147483648 : Int))) then
    some (9223372036854775807 : Int)
  else
    bif (decide (n < (-2147483648 : Int))) then
      some (-9223372036854775808 : Int)
    else
      some (IntKind.i64.wrap (n * 2 ^ min (Int.toNat (32 : Int)) (IntKind.bits IntKind.i64)))
def C213 : Con where
  X := Int
  Y := Int
  e := 0
  args x := [.dat (.int .i64) x]
  hin x := []
  F x := f213 x
  ret y := [.dat (.int .i64) y]
  hout y := []
  nout := 0
theorem C213_vc (n : Int) (y : Int) (hF : f213 n = some y) : vc Tryz.prog tab Tryz.f213.ntmps 0 (match Tryz.f213.body with | some c => c | none => .skip) (retK tab C213 Tryz.f213.results.toList y) (C213.shIn n).st := by
  unfold f213 at hF
  refine Or.inl ?_
  refine Or.inl ?_
  refine Or.inl ?_
  refine condI hF (fun hF => ?_) (fun hF => ?_)
  · refine Or.inl ?_
    have hy := someE hF
    subst hy
    refine And.intro rfl (Exists.intro [] (Exists.intro [] (Exists.intro [] (Exists.intro [] (Exists.intro [] (And.intro rfl (And.intro rfl (And.intro trivial trivial))))))))
  · refine Or.inl ?_
    refine condI hF (fun hF => ?_) (fun hF => ?_)
    · refine Or.inl ?_
      have hy := someE hF
      subst hy
      refine And.intro rfl (Exists.intro [] (Exists.intro [] (Exists.intro [] (Exists.intro [] (Exists.intro [] (And.intro rfl (And.intro rfl (And.intro trivial trivial))))))))
    · refine Or.inl ?_
      refine And.intro (by decide) ?_
      have hy := someE hF
      subst hy
      refine And.intro rfl (Exists.intro [] (Exists.intro [] (Exists.intro [] (Exists.intro [] (Exists.intro [] (And.intro rfl (And.intro rfl (And.intro trivial trivial))))))))
theorem C213_holds : C213.Holds Tryz.prog 213 := holds_of_vc tab_ok mixed (fn := Tryz.f213) (by kernel_rfl) rfl C213 (fun x y hF => C213_vc x y hF)
theorem f213_in : ∃ fn, Tryz.prog.funcs[213]? = some fn ∧ fn.body.isSome = true ∧ (fn.name == "runtime.NumGoroutine") = false := ⟨Tryz.f213, by kernel_rfl, by kernel_rfl, by kernel_rfl⟩
end Go.Proofs
namespace Go.Proofs
open Go.AM
-- carousel/act.within
def f214 (x_ : Int) (lo : Int) (hi : Int) : Option Int :=
  some (if hi < (if lo > x_ then lo else x_) then hi else (if lo > x_ then lo else x_))
def C214 : Con where
  X := Int × Int × Int
  Y := Int
  e := 0
  args x := [.dat (.int .i64) x.1, .dat (.int .i64) x.2.1, .dat (.int .i64) x.2.2]
  hin x := []
  F x := f214 x.1 x.2.1 x.2.2
  ret y := [.dat (.int .i64) y]
  hout y := []
  nout := 0
theorem C214_vc (x_ : Int) (lo : Int) (hi : Int) (y : Int) (hF : f214 x_ lo hi = some y) : vc Tryz.prog tab Tryz.f214.ntmps 0 (match Tryz.f214.body with | some c => c | none => .skip) (retK tab C214 Tryz.f214.results.toList y) (C214.shIn (x_, lo, hi)).st := by
  unfold f214 at hF
  refine Or.inl ?_
  refine Or.inl ?_
  have hy := someE hF
  subst hy
  refine And.intro rfl (Exists.intro [] (Exists.intro [] (Exists.intro [] (Exists.intro [] (Exists.intro [] (And.intro rfl (And.intro rfl (And.intro trivial trivial))))))))
theorem C214_holds : C214.Holds Tryz.prog 214 := holds_of_vc tab_ok mixed (fn := Tryz.f214) (by kernel_rfl) rfl C214 (fun x y hF => C214_vc x.1 x.2.1 x.2.2 y hF)
theorem f214_in : ∃ fn, Tryz.prog.funcs[214]? = some fn ∧ fn.body.isSome = true ∧ (fn.name == "runtime.NumGoroutine") = false := ⟨Tryz.f214, by kernel_rfl, by kernel_rfl, by kernel_rfl⟩
end Go.Proofs
namespace Go.Proofs
open Go.AM
-- carousel/fix.Neg
def f215 (a : Int) : Option Int :=
  bif (a == (-9223372036854775808 : Int)) then
    some (9223372036854775807 : Int)
  else
    some (IntKind.i64.wrap (0 - a))
def C215 : Con where
  X := Int
  Y := Int
  e := 0
  args x := [.dat (.int .i64) x]
  hin x := []
  F x := f215 x
  ret y := [.dat (.int .i64) y]
  hout y := []
  nout := 0
theorem C215_vc (a : Int) (y : Int) (hF : f215 a = some y) : vc Tryz.prog tab Tryz.f215.ntmps 0 (match Tryz.f215.body with | some c => c | none => .skip) (retK tab C215 Tryz.f215.results.toList y) (C215.shIn a).st := by
  unfold f215 at hF
  refine Or.inl ?_
  refine Or.inl ?_
  refine Or.inl ?_
  refine condI hF (fun hF => ?_) (fun hF => ?_)
  · refine Or.inl ?_
    have hy := someE hF
    subst hy
    refine And.intro rfl (Exists.intro [] (Exists.intro [] (Exists.intro [] (Exists.intro [] (Exists.intro [] (And.intro rfl (And.intro rfl (And.intro trivial trivial))))))))
  · refine Or.inl ?_
    have hy := someE hF
    subst hy
    refine And.intro rfl (Exists.intro [] (Exists.intro [] (Exists.intro [] (Exists.intro [] (Exists.intro [] (And.intro rfl (And.intro rfl (And.intro trivial trivial))))))))
theorem C215_holds : C215.Holds Tryz.prog 215 := holds_of_vc tab_ok mixed (fn := Tryz.f215) (by kernel_rfl) rfl C215 (fun x y hF => C215_vc x y hF)
theorem f215_in : ∃ fn, Tryz.prog.funcs[215]? = some fn ∧ fn.body.isSome = true ∧ (fn.name == "runtime.NumGoroutine") = false := ⟨Tryz.f215, by kernel_rfl, by kernel_rfl, by kernel_rfl⟩
end Go.Proofs
namespace Go.Proofs
open Go.AM
-- carousel/act.Of
def f186 (kind : Int) (x_ : Int) : Option (Int × Int) :=
  bif (kind == (1 : Int)) then
    some ((if (0 : Int) > x_ then (0 : Int) else x_), (0 : Int))
  else
    bif (kind == (2 : Int)) then
      bif (decide (x_ > (0 : Int))) then
        some (x_, (0 : Int))
      else
        bindF (f213 (8 : Int)) fun r1 =>
        bindF (f207 x_ r1) fun r2 =>
        some (r2, (0 : Int))
    else
      bif (kind == (3 : Int)) then
        bindF (f214 x_ (-4294967296 : Int) (4294967296 : Int)) fun r3 =>
        some (r3, (0 : Int))
      else
        bif (kind == (4 : Int)) then
          bif (decide (x_ < (0 : Int))) then
            bindF (f215 x_) fun r4 =>
            some (r4, (0 : Int))
          else
            some (x_, (0 : Int))
        else
          bif (kind == (5 : Int)) then
            bindF (f213 (2 : Int)) fun r5 =>
            bindF (f207 x_ r5) fun r6 =>
            bindF (f167 r6 (2147483648 : Int)) fun r7 =>
            bindF (f214 r7 (0 : Int) (4294967296 : Int)) fun r8 =>
            some (r8, (0 : Int))
          else
            some ((0 : Int), (1 : Int))
def C186 : Con where
  X := Int × Int
  Y := Int × Int
  e := 0
  args x := [.dat (.int .i64) x.1, .dat (.int .i64) x.2]
  hin x := []
  F x := f186 x.1 x.2
  ret y := [.dat (.int .i64) y.1, .dat (.int .i64) y.2]
  hout y := []
  nout := 0
theorem C186_vc (kind : Int) (x_ : Int) (y : Int × Int) (hF : f186 kind x_ = some y) : vc Tryz.prog tab Tryz.f186.ntmps 0 (match Tryz.f186.body with | some c => c | none => .skip) (retK tab C186 Tryz.f186.results.toList y) (C186.shIn (kind, x_)).st := by
  unfold f186 at hF
  refine Or.inl ?_
  refine Or.inl ?_
  refine Or.inl ?_
  refine Or.inl ?_
  refine condI hF (fun hF => ?_) (fun hF => ?_)
  · refine Or.inl ?_
    have hy := someE hF
    subst hy
    refine And.intro rfl (Exists.intro [] (Exists.intro [] (Exists.intro [] (Exists.intro [] (Exists.intro [] (And.intro rfl (And.intro rfl (And.intro rfl (And.intro trivial trivial)))))))))
  · refine Or.inl ?_
    refine condI hF (fun hF => ?_) (fun hF => ?_)
    · refine Or.inl ?_
      refine Or.inl ?_
      refine condI hF (fun hF => ?_) (fun hF => ?_)
      · refine Or.inl ?_
        have hy := someE hF
        subst hy
        refine And.intro rfl (Exists.intro [] (Exists.intro [] (Exists.intro [] (Exists.intro [] (Exists.intro [] (And.intro rfl (And.intro rfl (And.intro rfl (And.intro trivial trivial)))))))))
      · refine Or.inl ?_
        obtain ⟨r1, hr1, hF⟩ := bindE hF
        refine Or.inl (And.intro f213_in (callV0 (callI C213 (8 : Int) r1 [] false C213_holds hr1 rfl rfl ?_)))
        refine (And.intro rfl (And.intro (fun h => nomatch h) (And.intro rfl (And.intro rfl (And.intro trivial (And.intro trivial ?_))))))
        obtain ⟨r2, hr2, hF⟩ := bindE hF
        refine Or.inl (And.intro f207_in (callV0 (callI C207 (x_, r1) r2 [] false C207_holds hr2 rfl rfl ?_)))
        refine (And.intro rfl (And.intro rfl (And.intro (fun h => nomatch h) (And.intro rfl (And.intro rfl (And.intro trivial (And.intro trivial ?_)))))))
        have hy := someE hF
        subst hy
        refine And.intro rfl (Exists.intro [] (Exists.intro [] (Exists.intro [] (Exists.intro [] (Exists.intro [] (And.intro rfl (And.intro rfl (And.intro rfl (And.intro trivial trivial)))))))))
    · refine Or.inl ?_
      refine condI hF (fun hF => ?_) (fun hF => ?_)
      · refine Or.inl ?_
        obtain ⟨r3, hr3, hF⟩ := bindE hF
        have hr3 : C214.F (x_, (-4294967296 : Int), (4294967296 : Int)) = some r3 := hr3
        refine Or.inl (And.intro f214_in (callV0 (callI C214 _ r3 [] false C214_holds hr3 rfl rfl ?_)))
        refine (And.intro rfl (And.intro rfl (And.intro rfl (And.intro (fun h => nomatch h) (And.intro rfl (And.intro rfl (And.intro trivial (And.intro trivial ?_))))))))
        have hy := someE hF
        subst hy
        refine And.intro rfl (Exists.intro [] (Exists.intro [] (Exists.intro [] (Exists.intro [] (Exists.intro [] (And.intro rfl (And.intro rfl (And.intro rfl (And.intro trivial trivial)))))))))
      · refine Or.inl ?_
        refine condI hF (fun hF => ?_) (fun hF => ?_)
        · refine Or.inl ?_
          refine Or.inl ?_
          refine condI hF (fun hF => ?_) (fun hF => ?_)
          · refine Or.inl ?_
            obtain ⟨r4, hr4, hF⟩ := bindE hF
            refine Or.inl (And.intro f215_in (callV0 (callI C215 x_ r4 [] false C215_holds hr4 rfl rfl ?_)))
            refine (And.intro rfl (And.intro (fun h => nomatch h) (And.intro rfl (And.intro rfl (And.intro trivial (And.intro trivial ?_))))))
            have hy := someE hF
            subst hy
            refine And.intro rfl (Exists.intro [] (Exists.intro [] (Exists.intro [] (Exists.intro [] (Exists.intro [] (And.intro rfl (And.intro rfl (And.intro rfl (And.intro trivial trivial)))))))))
          · refine Or.inl ?_
            have hy := someE hF
            subst hy
            refine And.intro rfl (Exists.intro [] (Exists.intro [] (Exists.intro [] (Exists.intro [] (Exists.intro [] (And.intro rfl (And.intro rfl (And.intro rfl (And.intro trivial trivial)))))))))
        · refine Or.inl ?_
          refine condI hF (fun hF => ?_) (fun hF => ?_)
          · refine Or.inl ?_
            obtain ⟨r5, hr5, hF⟩ := bindE hF
            refine Or.inl (And.intro f213_in (callV0 (callI C213 (2 : Int) r5 [] false C213_holds hr5 rfl rfl ?_)))
            refine (And.intro rfl (And.intro (fun h => nomatch h) (And.intro rfl (And.intro rfl (And.intro trivial (And.intro trivial ?_))))))
            obtain ⟨r6, hr6, hF⟩ := bindE hF
            refine Or.inl (And.intro f207_in (callV0 (callI C207 (x_, r5) r6 [] false C207_holds hr6 rfl rfl ?_)))
            refine (And.intro rfl (And.intro rfl (And.intro (fun h => nomatch h) (And.intro rfl (And.intro rfl (And.intro trivial (And.intro trivial ?_)))))))
            obtain ⟨r7, hr7, hF⟩ := bindE hF
            refine Or.inl (And.intro f167_in (callV0 (callI C167 (r6, (2147483648 : Int)) r7 [] false C167_holds hr7 rfl rfl ?_)))
            refine (And.intro rfl (And.intro rfl (And.intro (fun h => nomatch h) (And.intro rfl (And.intro rfl (And.intro trivial (And.intro trivial ?_)))))))
            obtain ⟨r8, hr8, hF⟩ := bindE hF
            refine Or.inl (And.intro f214_in (callV0 (callI C214 (r7, (0 : Int), (4294967296 : Int)) r8 [] false C214_holds hr8 rfl rfl ?_)))
            refine (And.intro rfl (And.intro rfl (And.intro rfl (And.intro (fun h => nomatch h) (And.intro rfl (And.intro rfl (And.intro trivial (And.intro trivial ?_))))))))
            have hy := someE hF
            subst hy
            refine And.intro rfl (Exists.intro [] (Exists.intro [] (Exists.intro [] (Exists.intro [] (Exists.intro [] (And.intro rfl (And.intro rfl (And.intro rfl (And.intro trivial trivial)))))))))
          · refine Or.inl ?_
            have hy := someE hF
            subst hy
            refine And.intro rfl (Exists.intro [] (Exists.intro [] (Exists.intro [] (Exists.intro [] (Exists.intro [] (And.intro rfl (And.intro rfl (And.intro rfl (And.intro trivial trivial)))))))))
theorem C186_holds : C186.Holds Tryz.prog 186 := holds_of_vc tab_ok mixed (fn := Tryz.f186) (by kernel_rfl) rfl C186 (fun x y hF => C186_vc x.1 x.2 y hF)
theorem f186_in : ∃ fn, Tryz.prog.funcs[186]? = some fn ∧ fn.body.isSome = true ∧ (fn.name == "runtime.NumGoroutine") = false := ⟨Tryz.f186, by kernel_rfl, by kernel_rfl, by kernel_rfl⟩
end Go.Proofs
namespace Go.Proofs
open Go.AM
-- carousel/act.All
def f149_j3 (kind : Int) (t : (List Int) × (List Int)) : Option Bool :=
  bindF (f185 kind) fun r9 =>
  bif (!r9) then
    some true
  else
    bindF (f91 (t.1, t.2)) fun r10 =>
    some (!r10)
def f149_j2 (kind : Int) (t : (List Int) × (List Int)) : Option (Sum Unit Unit) :=
  bindF (f149_j3 kind t) fun z8 =>
  bif z8 then
    some (Sum.inr ())
  else
    some (Sum.inl ())
def f149_l4 (kind : Int) (t : (List Int) × (List Int)) (go : (Int × (List Int)) → Option (List Int)) (v23 : Int) (l3 : List Int) : Option (List Int) :=
  bif (decide (v23 < (List.length t.2 : Int))) then
    guardF (0 ≤ v23 ∧ v23 < (List.length t.2 : Int)) <|
    bindF (f186 kind (rd (0 : Int) t.2 v23)) fun q7_5 =>
    guardF (0 ≤ v23 ∧ v23 < (List.length l3 : Int)) <|
    go ((IntKind.i64.wrap (v23 + (1 : Int))), (List.set l3 (Int.toNat v23) q7_5.1))
  else
    some l3
def f149 (kind : Int) (t : (List Int) × (List Int)) : Option (Int × (List Int) × (List Int)) :=
  bindF (f149_j2 kind t) fun z5 =>
  sumF z5 (fun z5a =>
    bindF (f49 (t.1, t.2)) fun r11 =>
    bindF (loopF (fun go x => f149_l4 kind t go x.1 x.2) fuelN ((0 : Int), r11.2)) fun z12 =>
    some ((0 : Int), r11.1, z12)) (fun z5b =>
    some ((1 : Int), [], []))
def C149 : Con where
  X := Int × ((List Int) × (List Int))
  Y := Int × (List Int) × (List Int)
  e := 0
  args x := [.dat (.int .i64) x.1, .dat (.p (.sl (.int .i64)) (.sl (.int .i64))) x.2]
  hin x := []
  F x := f149 x.1 x.2
  ret y := [.raw true [(.osl 0), (.osl 1)], .dat (.int .i64) y.1]
  hout y := [(0, .arr 3 (.int .i64) y.2.1), (1, .arr 57 (.int .i64) y.2.2)]
  nout := 2
theorem C149_vc (kind : Int) (t : (List Int) × (List Int)) (y : Int × (List Int) × (List Int)) (hF : f149 kind t = some y) : vc Tryz.prog tab Tryz.f149.ntmps 0 (match Tryz.f149.body with | some c => c | none => .skip) (retK tab C149 Tryz.f149.results.toList y) (C149.shIn (kind, t)).st := by
  unfold f149 at hF
  refine Or.inl ?_
  obtain ⟨z5, hz5, hF⟩ := bindE hF
  refine Or.inr ⟨Sum.elim (fun z5a => [(0, ⟨[(0, .dat (.int .i64) kind), (3, .raw false [(.ptr 0 0)]), (4, .raw false [(.ptr 1 0)])], [(0, .cells [(.d (.sl (.int .i64)) t.1), (.d (.sl (.int .i64)) t.2)]), (1, .cells [(.c (.slice none 0 0)), (.c (.slice none 0 0))])], 2⟩)]) (fun z5b => [(1, ⟨[(4, .raw false [(.ptr 0 0)]), (5, .dat (.int .i64) (1 : Int))], [(0, .cells [(.c (.slice none 0 0)), (.c (.slice none 0 0))])], 1⟩)]) z5, ?_, ?_⟩
  · have hF := hz5
    clear hz5
    unfold f149_j2 at hF
    obtain ⟨z8, hz8, hF⟩ := bindE hF
    refine Or.inr ⟨[(0, ⟨[(0, .dat (.int .i64) kind), (3, .raw false [(.ptr 0 0)]), (4, .raw false [(.ptr 1 0)]), (16, .dat .bool z8)], [(0, .cells [(.d (.sl (.int .i64)) t.1), (.d (.sl (.int .i64)) t.2)]), (1, .cells [(.c (.slice none 0 0)), (.c (.slice none 0 0))])], 2⟩)], ?_, ?_⟩
    · have hF := hz8
      clear hz8
      unfold f149_j3 at hF
      obtain ⟨r9, hr9, hF⟩ := bindE hF
      refine Or.inl (And.intro f185_in (callV0 (callI C185 kind r9 [] false C185_holds hr9 rfl rfl ?_)))
      refine (And.intro rfl (And.intro (fun h => nomatch h) (And.intro rfl (And.intro rfl (And.intro trivial (And.intro trivial ?_))))))
      refine condN hF (fun hF => ?_) (fun hF => ?_)
      · refine gdYF ?_
        obtain ⟨r10, hr10, hF⟩ := bindE hF
        refine Or.inl (And.intro f91_in (callV0 (callI C91 (t.1, t.2) r10 [] false C91_holds hr10 rfl rfl ?_)))
        refine (And.intro rfl (And.intro rfl (And.intro (fun h => nomatch h) (And.intro rfl (And.intro rfl (And.intro trivial (And.intro trivial ?_)))))))
        refine gdYF ?_
        refine condF ?_
        have hz := someE hF
        subst hz
        refine Exists.intro [] (Exists.intro [] (Exists.intro [] (Exists.intro [] (Exists.intro [(0, some 0), (1, some 1)] (And.intro rfl (And.intro rfl (And.intro rfl (And.intro (And.intro rfl (And.intro rfl trivial)) (And.intro rfl (And.intro rfl trivial))))))))))
      · refine gdNF ?_
        refine gdNF ?_
        refine condT ?_
        have hz := someE hF
        subst hz
        refine Exists.intro [] (Exists.intro [] (Exists.intro [] (Exists.intro [] (Exists.intro [(0, some 0), (1, some 1)] (And.intro rfl (And.intro rfl (And.intro rfl (And.intro (And.intro rfl (And.intro rfl trivial)) (And.intro rfl (And.intro rfl trivial))))))))))
    · refine And.intro ?_ trivial
      refine condI hF (fun hF => ?_) (fun hF => ?_)
      · refine Or.inl ?_
        refine Or.inl ?_
        have hz := someE hF
        subst hz
        refine Exists.intro [] (Exists.intro [] (Exists.intro [] (Exists.intro [] (Exists.intro [(0, some 1)] (And.intro rfl (And.intro rfl (And.intro (And.intro rfl trivial) (And.intro rfl trivial))))))))
      · have hz := someE hF
        subst hz
        refine Exists.intro [] (Exists.intro [] (Exists.intro [] (Exists.intro [] (Exists.intro [(0, some 0), (1, some 1)] (And.intro rfl (And.intro rfl (And.intro (And.intro rfl (And.intro rfl trivial)) (And.intro rfl (And.intro rfl trivial)))))))))
  · rcases z5 with z5a | z5b
    · dsimp only [sumF] at hF
      refine And.intro ?_ trivial
      refine Or.inl ?_
      obtain ⟨r11, hr11, hF⟩ := bindE hF
      refine Or.inl (And.intro f49_in (callV0 (callI C49 (t.1, t.2) r11 [] false C49_holds hr11 rfl rfl ?_)))
      refine (And.intro rfl (And.intro rfl (And.intro (fun h => nomatch h) (And.intro rfl (And.intro rfl (And.intro trivial (And.intro trivial ?_)))))))
      refine Or.inl ?_
      refine Or.inl ?_
      refine Or.inl ?_
      obtain ⟨z12, hz12, hF⟩ := bindE hF
      refine loopI (Int × (List Int)) (List Int) (fun x => ⟨[(0, .dat (.int .i64) kind), (4, .raw false [(.ptr 0 0)]), (6, .raw false [(.ptr 1 0)]), (21, .dat (.sl (.int .i64)) t.2), (22, .dat (.int .i64) (List.length t.2 : Int)), (23, .dat (.int .i64) x.1)], [(0, .cells [(.c (.slice none 0 0)), (.c (.slice none 0 0))]), (1, .cells [(.osl 2), (.osl 3)]), (2, .arr 3 (.int .i64) r11.1), (3, .arr 57 (.int .i64) x.2)], 4⟩) (fun z => [(2, ⟨[(4, .raw false [(.ptr 0 0)]), (6, .raw false [(.ptr 1 0)])], [(0, .cells [(.c (.slice none 0 0)), (.c (.slice none 0 0))]), (1, .cells [(.osl 2), (.osl 3)]), (2, .arr 3 (.int .i64) r11.1), (3, .arr 57 (.int .i64) z)], 4⟩)]) (loopF (fun go x => f149_l4 kind t go x.1 x.2)) fuelN ((0 : Int), r11.2) z12 (And.intro hz12 (And.intro (Exists.intro [] (Exists.intro [] (Exists.intro [] (Exists.intro [] (Exists.intro [(0, some 1), (1, some 4), (2, some 2), (3, some 3)] (And.intro rfl (And.intro rfl (And.intro rfl (And.intro rfl (And.intro rfl (And.intro (And.intro rfl (And.intro rfl trivial)) (And.intro rfl (And.intro rfl (And.intro rfl (And.intro rfl trivial))))))))))))))) (And.intro (fun _ _ h => loopZ h) (And.intro (fun m => curI (fun v23 => fun l3 z hF => ?_)) ?_))))
      · have hF : f149_l4 kind t (loopF (fun go x => f149_l4 kind t go x.1 x.2) m) v23 l3 = some z := hF
        unfold f149_l4 at hF
        refine Or.inl ?_
        refine Or.inl ?_
        refine condI hF (fun hF => ?_) (fun hF => ?_)
        · refine Or.inl ?_
          refine Or.inl ?_
          refine guardI hF (fun hF => ?_)
          refine Exists.intro (.take 0 (.take 1 (.take 2 (.take 3 (.take 4 (.alt 5 (.take 6 (.take 7 (.take 8 (.take 9 (.alt 10 .done .done))))) .done)))))) (Exists.intro [] (Exists.intro [] (And.intro rfl ?_)))
          refine And.intro trivial ?_
          obtain ⟨q7_5, hq7_5, hF⟩ := bindE hF
          refine Or.inl (And.intro f186_in (callV0 (callI C186 (kind, (rd (0 : Int) t.2 v23)) q7_5 [] false C186_holds hq7_5 rfl rfl ?_)))
          refine (And.intro rfl (And.intro rfl (And.intro (fun h => nomatch h) (And.intro rfl (And.intro rfl (And.intro trivial (And.intro trivial ?_)))))))
          refine guardI hF (fun hF => ?_)
          refine And.intro trivial ?_
          refine Or.inl ?_
          refine Exists.intro ((IntKind.i64.wrap (v23 + (1 : Int))), (List.set l3 (Int.toNat v23) q7_5.1)) (And.intro hF (Exists.intro [] (Exists.intro [] (Exists.intro [] (Exists.intro [] (Exists.intro [(0, some 0), (1, some 1), (2, some 2), (3, some 3)] (And.intro rfl (And.intro rfl (And.intro rfl (And.intro rfl (And.intro rfl (And.intro (And.intro rfl (And.intro rfl trivial)) (And.intro rfl (And.intro rfl (And.intro rfl (And.intro rfl trivial))))))))))))))))
        · have hz := someE hF
          subst hz
          refine Exists.intro [] (Exists.intro [] (Exists.intro [] (Exists.intro [] (Exists.intro [(0, some 0), (1, some 1), (2, some 2), (3, some 3)] (And.intro rfl (And.intro (And.intro rfl (And.intro rfl trivial)) (And.intro rfl (And.intro rfl (And.intro rfl (And.intro rfl trivial))))))))))
      · refine And.intro ?_ trivial
        refine Or.inl ?_
        refine Or.inl ?_
        have hy := someE hF
        subst hy
        refine And.intro rfl (Exists.intro [] (Exists.intro [] (Exists.intro [] (Exists.intro [] (Exists.intro [(0, some 2), (1, some 3)] (And.intro rfl (And.intro rfl (And.intro (And.intro rfl trivial) (And.intro rfl (And.intro rfl trivial))))))))))
    · dsimp only [sumF] at hF
      refine And.intro ?_ trivial
      have hy := someE hF
      subst hy
      refine And.intro rfl (Exists.intro [] (Exists.intro [] (Exists.intro [] (Exists.intro [] (Exists.intro [(0, none), (1, none)] (And.intro rfl (And.intro rfl (And.intro (And.intro rfl trivial) (And.intro rfl (And.intro rfl trivial))))))))))
theorem C149_holds : C149.Holds Tryz.prog 149 := holds_of_vc tab_ok mixed (fn := Tryz.f149) (by kernel_rfl) rfl C149 (fun x y hF => C149_vc x.1 x.2 y hF)
theorem f149_in : ∃ fn, Tryz.prog.funcs[149]? = some fn ∧ fn.body.isSome = true ∧ (fn.name == "runtime.NumGoroutine") = false := ⟨Tryz.f149, by kernel_rfl, by kernel_rfl, by kernel_rfl⟩
end Go.Proofs
namespace Go.Proofs
open Go.AM
-- carousel/conv.Pool
def f150_j3 (a : (List Int) × (List Int)) (wid : Int) : Option Bool :=
  bif (decide (wid < (1 : Int))) then
    some true
  else
    guardF (0 ≤ (1 : Int) ∧ (1 : Int) < (List.length a.1 : Int)) <|
    some (decide (wid > (rd (0 : Int) a.1 (1 : Int))))
def f150_j2 (a : (List Int) × (List Int)) (wid : Int) : Option (Sum Unit Int) :=
  bindF (f91 (a.1, a.2)) fun r4 =>
  bif (!r4) then
    some (Sum.inr (1 : Int))
  else
    bif ((List.length a.1 : Int) != (2 : Int)) then
      some (Sum.inr (4 : Int))
    else
      bindF (f150_j3 a wid) fun z5 =>
      bif z5 then
        some (Sum.inr (1 : Int))
      else
        some (Sum.inl ())
def f150_l7 (a : (List Int) × (List Int)) (wid : Int) (v61 : Int) (go : (Int × Int) → Option Int) (best : Int) (at_ : Int) : Option Int :=
  guardF ((IntKind.i64.wrap (Int.tdiv (rd (0 : Int) a.1 (1 : Int)) wid)) ≠ 0) <|
  guardF ((IntKind.i64.wrap (Int.tdiv (rd (0 : Int) a.1 (1 : Int)) wid)) ≠ 0) <|
  bif (decide (at_ < (IntKind.i64.wrap ((IntKind.i64.wrap ((IntKind.i64.wrap ((IntKind.i64.wrap (Int.tdiv v61 (IntKind.i64.wrap (Int.tdiv (rd (0 : Int) a.1 (1 : Int)) wid)))) * (rd (0 : Int) a.1 (1 : Int)))) + (IntKind.i64.wrap ((Int.tmod v61 (IntKind.i64.wrap (Int.tdiv (rd (0 : Int) a.1 (1 : Int)) wid))) * wid)))) + wid)))) then
    guardF (0 ≤ at_ ∧ at_ < (List.length a.2 : Int)) <|
    guardF (0 ≤ best ∧ best < (List.length a.2 : Int)) <|
    bif (decide ((rd (0 : Int) a.2 at_) > (rd (0 : Int) a.2 best))) then
      go (at_, (IntKind.i64.wrap (at_ + (1 : Int))))
    else
      go (best, (IntKind.i64.wrap (at_ + (1 : Int))))
  else
    some best
def f150_l6 (a : (List Int) × (List Int)) (wid : Int) (q7_11 : Int × (List Int) × (List Int)) (go : (Int × (List Int) × (List Int)) → Option ((List Int) × (List Int))) (v61 : Int) (l3 : List Int) (l5 : List Int) : Option ((List Int) × (List Int)) :=
  bif (decide (v61 < (List.length q7_11.2.2 : Int))) then
    guardF ((IntKind.i64.wrap (Int.tdiv (rd (0 : Int) a.1 (1 : Int)) wid)) ≠ 0) <|
    guardF ((IntKind.i64.wrap (Int.tdiv (rd (0 : Int) a.1 (1 : Int)) wid)) ≠ 0) <|
    bindF (loopF (fun go x => f150_l7 a wid v61 go x.1 x.2) fuelN ((IntKind.i64.wrap ((IntKind.i64.wrap ((IntKind.i64.wrap (Int.tdiv v61 (IntKind.i64.wrap (Int.tdiv (rd (0 : Int) a.1 (1 : Int)) wid)))) * (rd (0 : Int) a.1 (1 : Int)))) + (IntKind.i64.wrap ((Int.tmod v61 (IntKind.i64.wrap (Int.tdiv (rd (0 : Int) a.1 (1 : Int)) wid))) * wid)))), (IntKind.i64.wrap ((IntKind.i64.wrap ((IntKind.i64.wrap ((IntKind.i64.wrap (Int.tdiv v61 (IntKind.i64.wrap (Int.tdiv (rd (0 : Int) a.1 (1 : Int)) wid)))) * (rd (0 : Int) a.1 (1 : Int)))) + (IntKind.i64.wrap ((Int.tmod v61 (IntKind.i64.wrap (Int.tdiv (rd (0 : Int) a.1 (1 : Int)) wid))) * wid)))) + (1 : Int))))) fun z9 =>
    guardF (0 ≤ z9 ∧ z9 < (List.length a.2 : Int)) <|
    guardF (0 ≤ v61 ∧ v61 < (List.length l5 : Int)) <|
    guardF ((List.length l3 + List.length ([z9])) * 8 ≤ 140737488355328) <|
    go ((IntKind.i64.wrap (v61 + (1 : Int))), (l3 ++ ([z9])), (List.set l5 (Int.toNat v61) (rd (0 : Int) a.2 z9)))
  else
    some (l3, l5)
def f150 (a : (List Int) × (List Int)) (wid : Int) : Option (Int × (List Int) × (List Int) × (List Int)) :=
  bindF (f150_j2 a wid) fun z3 =>
  sumF z3 (fun z3a =>
    guardF (0 ≤ (1 : Int) ∧ (1 : Int) < (List.length a.1 : Int)) <|
    guardF (0 ≤ (1 : Int) ∧ (1 : Int) < (List.length a.1 : Int)) <|
    guardF (wid ≠ 0) <|
    guardF (0 ≤ (0 : Int) ∧ (0 : Int) < (List.length a.1 : Int)) <|
    bindF (f175 ([(rd (0 : Int) a.1 (0 : Int)), (IntKind.i64.wrap (Int.tdiv (rd (0 : Int) a.1 (1 : Int)) wid))])) fun q7_11 =>
    bindF (loopF (fun go x => f150_l6 a wid q7_11 go x.1 x.2.1 x.2.2) fuelN ((0 : Int), [], q7_11.2.2)) fun z8 =>
    some ((0 : Int), q7_11.2.1, z8.2, z8.1)) (fun z3b =>
    some (z3b, [], [], []))
def C150 : Con where
  X := ((List Int) × (List Int)) × Int
  Y := Int × (List Int) × (List Int) × (List Int)
  e := 0
  args x := [.dat (.p (.sl (.int .i64)) (.sl (.int .i64))) x.1, .dat (.int .i64) x.2]
  hin x := []
  F x := f150 x.1 x.2
  ret y := [.raw true [(.osl 0), (.osl 1)], .raw false [(.osl 2)], .dat (.int .i64) y.1]
  hout y := [(0, .arr 3 (.int .i64) y.2.1), (1, .arr 57 (.int .i64) y.2.2.1), (2, .arr 3 (.int .i64) y.2.2.2)]
  nout := 3
theorem C150_vc (a : (List Int) × (List Int)) (wid : Int) (y : Int × (List Int) × (List Int) × (List Int)) (hF : f150 a wid = some y) : vc Tryz.prog tab Tryz.f150.ntmps 0 (match Tryz.f150.body with | some c => c | none => .skip) (retK tab C150 Tryz.f150.results.toList y) (C150.shIn (a, wid)).st := by
  unfold f150 at hF
  refine Or.inl ?_
  obtain ⟨z3, hz3, hF⟩ := bindE hF
  refine Or.inr ⟨Sum.elim (fun z3a => [(0, ⟨[(1, .dat (.int .i64) wid), (2, .raw false [(.ptr 0 0)]), (4, .raw false [(.ptr 1 0)])], [(0, .cells [(.d (.sl (.int .i64)) a.1), (.d (.sl (.int .i64)) a.2)]), (1, .cells [(.c (.slice none 0 0)), (.c (.slice none 0 0))])], 2⟩)]) (fun z3b => [(1, ⟨[(4, .raw false [(.ptr 0 0)]), (5, .raw false [(.c (.slice none 0 0))]), (6, .dat (.int .i64) z3b)], [(0, .cells [(.c (.slice none 0 0)), (.c (.slice none 0 0))])], 1⟩)]) z3, ?_, ?_⟩
  · have hF := hz3
    clear hz3
    unfold f150_j2 at hF
    refine Or.inl ?_
    obtain ⟨r4, hr4, hF⟩ := bindE hF
    refine Or.inl (And.intro f91_in (callV0 (callI C91 (a.1, a.2) r4 [] false C91_holds hr4 rfl rfl ?_)))
    refine (And.intro rfl (And.intro rfl (And.intro (fun h => nomatch h) (And.intro rfl (And.intro rfl (And.intro trivial (And.intro trivial ?_)))))))
    refine condI hF (fun hF => ?_) (fun hF => ?_)
    · refine Or.inl ?_
      refine Or.inl ?_
      have hz := someE hF
      subst hz
      refine Exists.intro [] (Exists.intro [] (Exists.intro [] (Exists.intro [] (Exists.intro [(0, some 1)] (And.intro rfl (And.intro rfl (And.intro (And.intro rfl (And.intro rfl trivial)) (And.intro rfl trivial))))))))
    · refine Or.inl ?_
      refine condI hF (fun hF => ?_) (fun hF => ?_)
      · refine Or.inl ?_
        refine Or.inl ?_
        have hz := someE hF
        subst hz
        refine Exists.intro [] (Exists.intro [] (Exists.intro [] (Exists.intro [] (Exists.intro [(0, some 1)] (And.intro rfl (And.intro rfl (And.intro (And.intro rfl (And.intro rfl trivial)) (And.intro rfl trivial))))))))
      · obtain ⟨z5, hz5, hF⟩ := bindE hF
        refine Or.inr ⟨[(0, ⟨[(1, .dat (.int .i64) wid), (2, .raw false [(.ptr 0 0)]), (4, .raw false [(.ptr 1 0)]), (26, .dat .bool z5)], [(0, .cells [(.d (.sl (.int .i64)) a.1), (.d (.sl (.int .i64)) a.2)]), (1, .cells [(.c (.slice none 0 0)), (.c (.slice none 0 0))])], 2⟩)], ?_, ?_⟩
        · have hF := hz5
          clear hz5
          unfold f150_j3 at hF
          refine condN hF (fun hF => ?_) (fun hF => ?_)
          · refine gdYF ?_
            refine gdYF ?_
            refine gdYF ?_
            refine guardI hF (fun hF => ?_)
            refine gdYF ?_
            refine gdYF ?_
            refine condF ?_
            have hz := someE hF
            subst hz
            refine Exists.intro [] (Exists.intro [] (Exists.intro [] (Exists.intro [] (Exists.intro [(0, some 0), (1, some 1)] (And.intro rfl (And.intro rfl (And.intro rfl (And.intro (And.intro rfl (And.intro rfl trivial)) (And.intro rfl (And.intro rfl trivial))))))))))
          · refine gdNF ?_
            refine gdNF ?_
            refine gdNF ?_
            refine gdNF ?_
            refine gdNF ?_
            refine condT ?_
            have hz := someE hF
            subst hz
            refine Exists.intro [] (Exists.intro [] (Exists.intro [] (Exists.intro [] (Exists.intro [(0, some 0), (1, some 1)] (And.intro rfl (And.intro rfl (And.intro rfl (And.intro (And.intro rfl (And.intro rfl trivial)) (And.intro rfl (And.intro rfl trivial))))))))))
        · refine And.intro ?_ trivial
          refine condI hF (fun hF => ?_) (fun hF => ?_)
          · refine Or.inl ?_
            refine Or.inl ?_
            have hz := someE hF
            subst hz
            refine Exists.intro [] (Exists.intro [] (Exists.intro [] (Exists.intro [] (Exists.intro [(0, some 1)] (And.intro rfl (And.intro rfl (And.intro (And.intro rfl (And.intro rfl trivial)) (And.intro rfl trivial))))))))
          · have hz := someE hF
            subst hz
            refine Exists.intro [] (Exists.intro [] (Exists.intro [] (Exists.intro [] (Exists.intro [(0, some 0), (1, some 1)] (And.intro rfl (And.intro rfl (And.intro (And.intro rfl (And.intro rfl trivial)) (And.intro rfl (And.intro rfl trivial)))))))))
  · rcases z3 with z3a | z3b
    · dsimp only [sumF] at hF
      refine And.intro ?_ trivial
      refine Or.inl ?_
      refine Exists.intro (.take 0 (.take 1 (.take 2 (.take 3 (.take 4 (.take 5 (.take 6 (.take 7 (.take 8 (.take 9 (.take 10 (.take 11 .done)))))))))))) (Exists.intro [] (Exists.intro [] (And.intro rfl ?_)))
      refine guardI hF (fun hF => ?_)
      refine guardI hF (fun hF => ?_)
      refine guardI hF (fun hF => ?_)
      refine Or.inl ?_
      refine guardI hF (fun hF => ?_)
      refine Or.inl ?_
      obtain ⟨q7_11, hq7_11, hF⟩ := bindE hF
      refine Or.inl (And.intro f175_in (callV0 (callI C175 [(rd (0 : Int) a.1 (0 : Int)), (IntKind.i64.wrap (Int.tdiv (rd (0 : Int) a.1 (1 : Int)) wid))] q7_11 [] true C175_holds hq7_11 rfl rfl ?_)))
      refine (And.intro rfl (And.intro (fun _ => rfl) (And.intro rfl (And.intro rfl (And.intro trivial (And.intro trivial ?_))))))
      refine Or.inl ?_
      refine Or.inl ?_
      refine Or.inl ?_
      refine Or.inl ?_
      obtain ⟨z8, hz8, hF⟩ := bindE hF
      refine loopI (Int × (List Int) × (List Int)) ((List Int) × (List Int)) (fun x => ⟨[(1, .dat (.int .i64) wid), (2, .raw false [(.ptr 0 0)]), (4, .raw false [(.ptr 1 0)]), (7, .dat (.int .i64) (rd (0 : Int) a.1 (1 : Int))), (8, .dat (.int .i64) (IntKind.i64.wrap (Int.tdiv (rd (0 : Int) a.1 (1 : Int)) wid))), (9, .raw false [(.ptr 2 0)]), (11, .raw false [(.osl 3)]), (60, .dat (.int .i64) (List.length q7_11.2.2 : Int)), (61, .dat (.int .i64) x.1)], [(0, .cells [(.d (.sl (.int .i64)) a.1), (.d (.sl (.int .i64)) a.2)]), (1, .cells [(.c (.slice none 0 0)), (.c (.slice none 0 0))]), (2, .cells [(.osl 4), (.osl 5)]), (3, .arr 3 (.int .i64) x.2.1), (4, .arr 3 (.int .i64) q7_11.2.1), (5, .arr 57 (.int .i64) x.2.2)], 6⟩) (fun z => [(3, ⟨[(4, .raw false [(.ptr 0 0)]), (9, .raw false [(.ptr 1 0)]), (11, .raw false [(.osl 2)])], [(0, .cells [(.c (.slice none 0 0)), (.c (.slice none 0 0))]), (1, .cells [(.osl 3), (.osl 4)]), (2, .arr 3 (.int .i64) z.1), (3, .arr 3 (.int .i64) q7_11.2.1), (4, .arr 57 (.int .i64) z.2)], 5⟩)]) (loopF (fun go x => f150_l6 a wid q7_11 go x.1 x.2.1 x.2.2)) fuelN ((0 : Int), [], q7_11.2.2) z8 (And.intro hz8 (And.intro (Exists.intro [] (Exists.intro [] (Exists.intro [] (Exists.intro [] (Exists.intro [(0, some 0), (1, some 1), (2, some 5), (3, none), (4, some 3), (5, some 4)] (And.intro rfl (And.intro rfl (And.intro rfl (And.intro rfl (And.intro rfl (And.intro rfl (And.intro (And.intro rfl (And.intro rfl (And.intro rfl (And.intro rfl trivial)))) (And.intro rfl (And.intro rfl (And.intro rfl (And.intro rfl (And.intro rfl (And.intro rfl trivial)))))))))))))))))) (And.intro (fun _ _ h => loopZ h) (And.intro (fun m => curI (fun v61 => curI (fun l3 => fun l5 z hF => ?_))) ?_))))
      · have hF : f150_l6 a wid q7_11 (loopF (fun go x => f150_l6 a wid q7_11 go x.1 x.2.1 x.2.2) m) v61 l3 l5 = some z := hF
        unfold f150_l6 at hF
        refine Or.inl ?_
        refine Or.inl ?_
        refine condI hF (fun hF => ?_) (fun hF => ?_)
        · refine Or.inl ?_
          refine Or.inl ?_
          refine Or.inl ?_
          refine Exists.intro (.take 0 (.take 1 (.take 2 (.take 3 (.take 4 (.take 5 (.take 6 (.take 7 (.take 8 (.take 9 (.take 10 (.take 11 .done)))))))))))) (Exists.intro [] (Exists.intro [] (And.intro rfl ?_)))
          refine guardI hF (fun hF => ?_)
          refine guardI hF (fun hF => ?_)
          refine Or.inl ?_
          refine Or.inl ?_
          obtain ⟨z9, hz9, hF⟩ := bindE hF
          refine loopI (Int × Int) Int (fun x => ⟨[(1, .dat (.int .i64) wid), (2, .raw false [(.ptr 0 0)]), (4, .raw false [(.ptr 1 0)]), (7, .dat (.int .i64) (rd (0 : Int) a.1 (1 : Int))), (8, .dat (.int .i64) (IntKind.i64.wrap (Int.tdiv (rd (0 : Int) a.1 (1 : Int)) wid))), (9, .raw false [(.ptr 2 0)]), (11, .raw false [(.osl 3)]), (12, .dat (.int .i64) v61), (13, .dat (.int .i64) x.1), (14, .dat (.int .i64) x.2), (60, .dat (.int .i64) (List.length q7_11.2.2 : Int)), (61, .dat (.int .i64) v61)], [(0, .cells [(.d (.sl (.int .i64)) a.1), (.d (.sl (.int .i64)) a.2)]), (1, .cells [(.c (.slice none 0 0)), (.c (.slice none 0 0))]), (2, .cells [(.osl 4), (.osl 5)]), (3, .arr 3 (.int .i64) l3), (4, .arr 3 (.int .i64) q7_11.2.1), (5, .arr 57 (.int .i64) l5)], 6⟩) (fun z => [(5, ⟨[(1, .dat (.int .i64) wid), (2, .raw false [(.ptr 0 0)]), (4, .raw false [(.ptr 1 0)]), (7, .dat (.int .i64) (rd (0 : Int) a.1 (1 : Int))), (8, .dat (.int .i64) (IntKind.i64.wrap (Int.tdiv (rd (0 : Int) a.1 (1 : Int)) wid))), (9, .raw false [(.ptr 2 0)]), (11, .raw false [(.osl 3)]), (12, .dat (.int .i64) v61), (13, .dat (.int .i64) z), (60, .dat (.int .i64) (List.length q7_11.2.2 : Int)), (61, .dat (.int .i64) v61)], [(0, .cells [(.d (.sl (.int .i64)) a.1), (.d (.sl (.int .i64)) a.2)]), (1, .cells [(.c (.slice none 0 0)), (.c (.slice none 0 0))]), (2, .cells [(.osl 4), (.osl 5)]), (3, .arr 3 (.int .i64) l3), (4, .arr 3 (.int .i64) q7_11.2.1), (5, .arr 57 (.int .i64) l5)], 6⟩)]) (loopF (fun go x => f150_l7 a wid v61 go x.1 x.2)) fuelN ((IntKind.i64.wrap ((IntKind.i64.wrap ((IntKind.i64.wrap (Int.tdiv v61 (IntKind.i64.wrap (Int.tdiv (rd (0 : Int) a.1 (1 : Int)) wid)))) * (rd (0 : Int) a.1 (1 : Int)))) + (IntKind.i64.wrap ((Int.tmod v61 (IntKind.i64.wrap (Int.tdiv (rd (0 : Int) a.1 (1 : Int)) wid))) * wid)))), (IntKind.i64.wrap ((IntKind.i64.wrap ((IntKind.i64.wrap ((IntKind.i64.wrap (Int.tdiv v61 (IntKind.i64.wrap (Int.tdiv (rd (0 : Int) a.1 (1 : Int)) wid)))) * (rd (0 : Int) a.1 (1 : Int)))) + (IntKind.i64.wrap ((Int.tmod v61 (IntKind.i64.wrap (Int.tdiv (rd (0 : Int) a.1 (1 : Int)) wid))) * wid)))) + (1 : Int)))) z9 (And.intro hz9 (And.intro (Exists.intro [] (Exists.intro [] (Exists.intro [] (Exists.intro [] (Exists.intro [(0, some 0), (1, some 1), (2, some 2), (3, some 3), (4, some 4), (5, some 5)] (And.intro rfl (And.intro rfl (And.intro rfl (And.intro rfl (And.intro rfl (And.intro rfl (And.intro rfl (And.intro rfl (And.intro rfl (And.intro (And.intro rfl (And.intro rfl (And.intro rfl (And.intro rfl trivial)))) (And.intro rfl (And.intro rfl (And.intro rfl (And.intro rfl (And.intro rfl (And.intro rfl trivial))))))))))))))))))))) (And.intro (fun _ _ h => loopZ h) (And.intro (fun m => curI (fun best => fun at_ z hF => ?_)) ?_))))
          · have hF : f150_l7 a wid v61 (loopF (fun go x => f150_l7 a wid v61 go x.1 x.2) m) best at_ = some z := hF
            unfold f150_l7 at hF
            refine Or.inl ?_
            refine Or.inl ?_
            refine Exists.intro (.take 0 (.take 1 (.take 2 (.take 3 (.take 4 (.take 5 (.take 6 (.take 7 (.take 8 (.take 9 (.take 10 (.take 11 (.take 12 (.take 13 (.take 14 .done))))))))))))))) (Exists.intro [] (Exists.intro [] (And.intro rfl ?_)))
            refine guardI hF (fun hF => ?_)
            refine guardI hF (fun hF => ?_)
            refine condI hF (fun hF => ?_) (fun hF => ?_)
            · refine Or.inl ?_
              refine Or.inl ?_
              refine Exists.intro (.take 0 (.take 1 (.take 2 (.take 3 (.take 4 (.take 5 (.take 6 (.take 7 (.take 8 (.take 9 (.take 10 .done))))))))))) (Exists.intro [] (Exists.intro [] (And.intro rfl ?_)))
              refine guardI hF (fun hF => ?_)
              refine guardI hF (fun hF => ?_)
              refine condI hF (fun hF => ?_) (fun hF => ?_)
              · refine Exists.intro (at_, (IntKind.i64.wrap (at_ + (1 : Int)))) (And.intro hF (Exists.intro [] (Exists.intro [] (Exists.intro [] (Exists.intro [] (Exists.intro [(0, some 0), (1, some 1), (2, some 2), (3, some 3), (4, some 4), (5, some 5)] (And.intro rfl (And.intro rfl (And.intro rfl (And.intro rfl (And.intro rfl (And.intro rfl (And.intro rfl (And.intro rfl (And.intro rfl (And.intro (And.intro rfl (And.intro rfl (And.intro rfl (And.intro rfl trivial)))) (And.intro rfl (And.intro rfl (And.intro rfl (And.intro rfl (And.intro rfl (And.intro rfl trivial))))))))))))))))))))))
              · refine Exists.intro (best, (IntKind.i64.wrap (at_ + (1 : Int)))) (And.intro hF (Exists.intro [] (Exists.intro [] (Exists.intro [] (Exists.intro [] (Exists.intro [(0, some 0), (1, some 1), (2, some 2), (3, some 3), (4, some 4), (5, some 5)] (And.intro rfl (And.intro rfl (And.intro rfl (And.intro rfl (And.intro rfl (And.intro rfl (And.intro rfl (And.intro rfl (And.intro rfl (And.intro (And.intro rfl (And.intro rfl (And.intro rfl (And.intro rfl trivial)))) (And.intro rfl (And.intro rfl (And.intro rfl (And.intro rfl (And.intro rfl (And.intro rfl trivial))))))))))))))))))))))
            · have hz := someE hF
              subst hz
              refine Exists.intro [] (Exists.intro [] (Exists.intro [] (Exists.intro [] (Exists.intro [(0, some 0), (1, some 1), (2, some 2), (3, some 3), (4, some 4), (5, some 5)] (And.intro rfl (And.intro rfl (And.intro rfl (And.intro rfl (And.intro rfl (And.intro rfl (And.intro rfl (And.intro rfl (And.intro (And.intro rfl (And.intro rfl (And.intro rfl (And.intro rfl trivial)))) (And.intro rfl (And.intro rfl (And.intro rfl (And.intro rfl (And.intro rfl (And.intro rfl trivial)))))))))))))))))))
          · refine And.intro ?_ trivial
            refine Or.inl ?_
            refine Exists.intro (.take 0 (.take 1 (.take 2 (.take 3 (.take 4 (.take 5 (.take 6 (.take 7 (.take 8 (.alt 9 .done .done)))))))))) (Exists.intro [] (Exists.intro [] (And.intro rfl ?_)))
            refine guardI hF (fun hF => ?_)
            refine guardI hF (fun hF => ?_)
            refine And.intro trivial ?_
            refine Or.inl ?_
            refine Or.inl ?_
            refine Or.inl ?_
            refine guardI hF (fun hF => ?_)
            refine Exists.intro ((IntKind.i64.wrap (v61 + (1 : Int))), (l3 ++ ([z9])), (List.set l5 (Int.toNat v61) (rd (0 : Int) a.2 z9))) (And.intro hF (Exists.intro [] (Exists.intro [] (Exists.intro [] (Exists.intro [] (Exists.intro [(0, some 0), (1, some 1), (2, some 2), (3, some 7), (4, some 4), (5, some 5)] (And.intro rfl (And.intro rfl (And.intro rfl (And.intro rfl (And.intro rfl (And.intro rfl (And.intro (And.intro rfl (And.intro rfl (And.intro rfl (And.intro rfl trivial)))) (And.intro rfl (And.intro rfl (And.intro rfl (And.intro rfl (And.intro rfl (And.intro rfl trivial)))))))))))))))))))
        · have hz := someE hF
          subst hz
          refine Exists.intro [] (Exists.intro [] (Exists.intro [] (Exists.intro [] (Exists.intro [(0, some 1), (1, some 2), (2, some 3), (3, some 4), (4, some 5)] (And.intro rfl (And.intro (And.intro rfl (And.intro rfl (And.intro rfl trivial))) (And.intro rfl (And.intro rfl (And.intro rfl (And.intro rfl (And.intro rfl trivial)))))))))))
      · refine And.intro ?_ trivial
        refine Or.inl ?_
        refine Or.inl ?_
        have hy := someE hF
        subst hy
        refine And.intro rfl (Exists.intro [] (Exists.intro [] (Exists.intro [] (Exists.intro [] (Exists.intro [(0, some 3), (1, some 4), (2, some 2)] (And.intro rfl (And.intro rfl (And.intro (And.intro rfl (And.intro rfl trivial)) (And.intro rfl (And.intro rfl (And.intro rfl trivial)))))))))))
    · dsimp only [sumF] at hF
      refine And.intro ?_ trivial
      have hy := someE hF
      subst hy
      refine And.intro rfl (Exists.intro [] (Exists.intro [] (Exists.intro [] (Exists.intro [] (Exists.intro [(0, none), (1, none), (2, none)] (And.intro rfl (And.intro rfl (And.intro (And.intro rfl (And.intro rfl trivial)) (And.intro rfl (And.intro rfl (And.intro rfl trivial)))))))))))
theorem C150_holds : C150.Holds Tryz.prog 150 := holds_of_vc tab_ok mixed (fn := Tryz.f150) (by kernel_rfl) rfl C150 (fun x y hF => C150_vc x.1 x.2 y hF)
theorem f150_in : ∃ fn, Tryz.prog.funcs[150]? = some fn ∧ fn.body.isSome = true ∧ (fn.name == "runtime.NumGoroutine") = false := ⟨Tryz.f150, by kernel_rfl, by kernel_rfl, by kernel_rfl⟩
end Go.Proofs
