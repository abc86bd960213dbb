import Derived.Test.YtlgiakkejlbbfaaGreatLossNoneS1
set_option linter.unusedVariables false
set_option maxRecDepth 100000
set_option maxHeartbeats 8000000
namespace Go.Proofs
open Go.AM
open IntKind (i64 u64 i32 u32 i16 u16 i8 u8)
def f150_j4 (lo:Int) (y_:Int) (q6_7:Int) (q1:Int) (rhat:Int) : Option (Sum Unit Unit) :=
 bif (decide (q1 ≥ (4294967296:Int))) then
 some (Sum.inl ())
 else
 bif (decide ((u64.wrap (q1 * (bitsOf IntKind.u64 (fun p q=>p &&& q) (u64.wrap (y_ * 2 ^ min (Int.toNat (u64.wrap q6_7)) u64.bits)) (4294967295:Int)))) > (u64.wrap ((u64.wrap ((4294967296:Int) * rhat)) + (Int.fdiv (u64.wrap (lo * 2 ^ min (Int.toNat (u64.wrap q6_7)) u64.bits)) (2 ^ min (Int.toNat (32:Int)) u64.bits)))))) then
 some (Sum.inl ())
 else
 some (Sum.inr ())
def f150_l3 (lo:Int) (y_:Int) (q6_7:Int) (go : (Int×Int) → Option Int) (q1:Int) (rhat:Int) : Option Int :=
 bindF (f150_j4 lo y_ q6_7 q1 rhat) fun z4 =>
 sumF z4 (fun z4a =>
 bif (decide ((u64.wrap (rhat + (Int.fdiv (u64.wrap (y_ * 2 ^ min (Int.toNat (u64.wrap q6_7)) u64.bits)) (2 ^ min (Int.toNat (32:Int)) u64.bits)))) ≥ (4294967296:Int))) then
 some (u64.wrap (q1 - (1:Int)))
 else
 go ((u64.wrap (q1 - (1:Int))),(u64.wrap (rhat + (Int.fdiv (u64.wrap (y_ * 2 ^ min (Int.toNat (u64.wrap q6_7)) u64.bits)) (2 ^ min (Int.toNat (32:Int)) u64.bits)))))) (fun z4b =>
 some q1)
def f150_j8 (lo:Int) (y_:Int) (q6_7:Int) (rhat:Int) (q0:Int) : Option (Sum Unit Unit) :=
 bif (decide (q0 ≥ (4294967296:Int))) then
 some (Sum.inl ())
 else
 bif (decide ((u64.wrap (q0 * (bitsOf IntKind.u64 (fun p q=>p &&& q) (u64.wrap (y_ * 2 ^ min (Int.toNat (u64.wrap q6_7)) u64.bits)) (4294967295:Int)))) > (u64.wrap ((u64.wrap ((4294967296:Int) * rhat)) + (bitsOf IntKind.u64 (fun p q=>p &&& q) (u64.wrap (lo * 2 ^ min (Int.toNat (u64.wrap q6_7)) u64.bits)) (4294967295:Int)))))) then
 some (Sum.inl ())
 else
 some (Sum.inr ())
def f150_l7 (lo:Int) (y_:Int) (q6_7:Int) (go : (Int×Int) → Option Int) (rhat:Int) (q0:Int) : Option Int :=
 bindF (f150_j8 lo y_ q6_7 rhat q0) fun z8 =>
 sumF z8 (fun z8a =>
 bif (decide ((u64.wrap (rhat + (Int.fdiv (u64.wrap (y_ * 2 ^ min (Int.toNat (u64.wrap q6_7)) u64.bits)) (2 ^ min (Int.toNat (32:Int)) u64.bits)))) ≥ (4294967296:Int))) then
 some (u64.wrap (q0 - (1:Int)))
 else
 go ((u64.wrap (rhat + (Int.fdiv (u64.wrap (y_ * 2 ^ min (Int.toNat (u64.wrap q6_7)) u64.bits)) (2 ^ min (Int.toNat (32:Int)) u64.bits)))),(u64.wrap (q0 - (1:Int))))) (fun z8b =>
 some q0)
def f150 (hi:Int) (lo:Int) (y_:Int) : Option (Int×Int) :=
 bif (y_ == (0:Int)) then
 none
 else
 bif (decide (y_ ≤ hi)) then
 none
 else
 bif (hi == (0:Int)) then
 guardF (y_ ≠ 0) <|
 guardF (y_ ≠ 0) <|
 some ((u64.wrap (Int.tdiv lo y_)),(Int.tmod lo y_))
 else
 bindF (f174 y_) fun q6_7 =>
 guardF (0 ≤ (u64.wrap q6_7)) <|
 guardF (0 ≤ (u64.wrap q6_7)) <|
 guardF (0 ≤ (u64.wrap ((64:Int) - (u64.wrap q6_7)))) <|
 guardF (0 ≤ (u64.wrap q6_7)) <|
 guardF ((Int.fdiv (u64.wrap (y_ * 2 ^ min (Int.toNat (u64.wrap q6_7)) u64.bits)) (2 ^ min (Int.toNat (32:Int)) u64.bits)) ≠ 0) <|
 bindF (loopF (fun go x=>f150_l3 lo y_ q6_7 go x.1 x.2) fuelN ((u64.wrap (Int.tdiv (bitsOf IntKind.u64 (fun p q=>p ||| q) (u64.wrap (hi * 2 ^ min (Int.toNat (u64.wrap q6_7)) u64.bits)) (Int.fdiv lo (2 ^ min (Int.toNat (u64.wrap ((64:Int) - (u64.wrap q6_7)))) u64.bits))) (Int.fdiv (u64.wrap (y_ * 2 ^ min (Int.toNat (u64.wrap q6_7)) u64.bits)) (2 ^ min (Int.toNat (32:Int)) u64.bits)))),(u64.wrap ((bitsOf IntKind.u64 (fun p q=>p ||| q) (u64.wrap (hi * 2 ^ min (Int.toNat (u64.wrap q6_7)) u64.bits)) (Int.fdiv lo (2 ^ min (Int.toNat (u64.wrap ((64:Int) - (u64.wrap q6_7)))) u64.bits))) - (u64.wrap ((u64.wrap (Int.tdiv (bitsOf IntKind.u64 (fun p q=>p ||| q) (u64.wrap (hi * 2 ^ min (Int.toNat (u64.wrap q6_7)) u64.bits)) (Int.fdiv lo (2 ^ min (Int.toNat (u64.wrap ((64:Int) - (u64.wrap q6_7)))) u64.bits))) (Int.fdiv (u64.wrap (y_ * 2 ^ min (Int.toNat (u64.wrap q6_7)) u64.bits)) (2 ^ min (Int.toNat (32:Int)) u64.bits)))) * (Int.fdiv (u64.wrap (y_ * 2 ^ min (Int.toNat (u64.wrap q6_7)) u64.bits)) (2 ^ min (Int.toNat (32:Int)) u64.bits)))))))) fun z3 =>
 guardF ((Int.fdiv (u64.wrap (y_ * 2 ^ min (Int.toNat (u64.wrap q6_7)) u64.bits)) (2 ^ min (Int.toNat (32:Int)) u64.bits)) ≠ 0) <|
 bindF (loopF (fun go x=>f150_l7 lo y_ q6_7 go x.1 x.2) fuelN ((u64.wrap ((u64.wrap ((u64.wrap ((u64.wrap ((bitsOf IntKind.u64 (fun p q=>p ||| q) (u64.wrap (hi * 2 ^ min (Int.toNat (u64.wrap q6_7)) u64.bits)) (Int.fdiv lo (2 ^ min (Int.toNat (u64.wrap ((64:Int) - (u64.wrap q6_7)))) u64.bits))) * (4294967296:Int))) + (Int.fdiv (u64.wrap (lo * 2 ^ min (Int.toNat (u64.wrap q6_7)) u64.bits)) (2 ^ min (Int.toNat (32:Int)) u64.bits)))) - (u64.wrap (z3 * (u64.wrap (y_ * 2 ^ min (Int.toNat (u64.wrap q6_7)) u64.bits)))))) - (u64.wrap ((u64.wrap (Int.tdiv (u64.wrap ((u64.wrap ((u64.wrap ((bitsOf IntKind.u64 (fun p q=>p ||| q) (u64.wrap (hi * 2 ^ min (Int.toNat (u64.wrap q6_7)) u64.bits)) (Int.fdiv lo (2 ^ min (Int.toNat (u64.wrap ((64:Int) - (u64.wrap q6_7)))) u64.bits))) * (4294967296:Int))) + (Int.fdiv (u64.wrap (lo * 2 ^ min (Int.toNat (u64.wrap q6_7)) u64.bits)) (2 ^ min (Int.toNat (32:Int)) u64.bits)))) - (u64.wrap (z3 * (u64.wrap (y_ * 2 ^ min (Int.toNat (u64.wrap q6_7)) u64.bits)))))) (Int.fdiv (u64.wrap (y_ * 2 ^ min (Int.toNat (u64.wrap q6_7)) u64.bits)) (2 ^ min (Int.toNat (32:Int)) u64.bits)))) * (Int.fdiv (u64.wrap (y_ * 2 ^ min (Int.toNat (u64.wrap q6_7)) u64.bits)) (2 ^ min (Int.toNat (32:Int)) u64.bits)))))),(u64.wrap (Int.tdiv (u64.wrap ((u64.wrap ((u64.wrap ((bitsOf IntKind.u64 (fun p q=>p ||| q) (u64.wrap (hi * 2 ^ min (Int.toNat (u64.wrap q6_7)) u64.bits)) (Int.fdiv lo (2 ^ min (Int.toNat (u64.wrap ((64:Int) - (u64.wrap q6_7)))) u64.bits))) * (4294967296:Int))) + (Int.fdiv (u64.wrap (lo * 2 ^ min (Int.toNat (u64.wrap q6_7)) u64.bits)) (2 ^ min (Int.toNat (32:Int)) u64.bits)))) - (u64.wrap (z3 * (u64.wrap (y_ * 2 ^ min (Int.toNat (u64.wrap q6_7)) u64.bits)))))) (Int.fdiv (u64.wrap (y_ * 2 ^ min (Int.toNat (u64.wrap q6_7)) u64.bits)) (2 ^ min (Int.toNat (32:Int)) u64.bits)))))) fun z7 =>
 guardF (0 ≤ (u64.wrap q6_7)) <|
 some ((u64.wrap ((u64.wrap (z3 * (4294967296:Int))) + z7)),(Int.fdiv (u64.wrap ((u64.wrap ((u64.wrap ((u64.wrap ((u64.wrap ((u64.wrap ((bitsOf IntKind.u64 (fun p q=>p ||| q) (u64.wrap (hi * 2 ^ min (Int.toNat (u64.wrap q6_7)) u64.bits)) (Int.fdiv lo (2 ^ min (Int.toNat (u64.wrap ((64:Int) - (u64.wrap q6_7)))) u64.bits))) * (4294967296:Int))) + (Int.fdiv (u64.wrap (lo * 2 ^ min (Int.toNat (u64.wrap q6_7)) u64.bits)) (2 ^ min (Int.toNat (32:Int)) u64.bits)))) - (u64.wrap (z3 * (u64.wrap (y_ * 2 ^ min (Int.toNat (u64.wrap q6_7)) u64.bits)))))) * (4294967296:Int))) + (bitsOf IntKind.u64 (fun p q=>p &&& q) (u64.wrap (lo * 2 ^ min (Int.toNat (u64.wrap q6_7)) u64.bits)) (4294967295:Int)))) - (u64.wrap (z7 * (u64.wrap (y_ * 2 ^ min (Int.toNat (u64.wrap q6_7)) u64.bits)))))) (2 ^ min (Int.toNat (u64.wrap q6_7)) u64.bits)))
def C150 : Con where
 X := Int×Int×Int
 Y := Int×Int
 e := 0
 args x := [.dat T4 x.1,.dat T4 x.2.1,.dat T4 x.2.2]
 hin x := []
 F x := f150 x.1 x.2.1 x.2.2
 ret y := [.dat T4 y.1,.dat T4 y.2]
 hout y := []
 nout := 0
theorem C150_vc (hi:Int) (lo:Int) (y_:Int) (y : Int×Int) (q : f150 hi lo y_ = some y) : VC Tryz.f150 C150 (hi,lo,y_) y := by
 unfold f150 at q
 refine OL (OL (OL (cI q (fun q=>?_) (fun q=>?_))))
 ·exact nomatch q
 refine OL (OL (cI q (fun q=>?_) (fun q=>?_)))
 ·exact nomatch q
 refine OL (OL (cI q (fun q=>?_) (fun q=>?_)))
 ·refine OL (EI (.take 0 (.take 1 (.take 2 (.take 3 (.take 4 (.take 5 (.take 6 (.take 7 .done)))))))) (EI [] (EI [] (AI rfl (gI q (fun q=>?_))))))
  refine gI q (fun q=>?_)
  cases sE q
  refine AI rfl (E4 [] (R3 (AI TV TV)))
 refine OL ?_
 obtain ⟨q6_7,hq6_7,q⟩ := bE q
 refine OL (AI f174_in (cV (cQ C174 y_ q6_7 [] false C174_holds hq6_7 rfl rfl (AI rfl (K0 (OL (gI q (fun q=>?_))))))))
 refine OL (AI (by decide) (OL (OL (gI q (fun q=>?_)))))
 refine gI q (fun q=>?_)
 refine OL (gI q (fun q=>?_))
 refine OL (AI (by decide) (OL (OL (gI q (fun q=>?_)))))
 refine OL (OL ?_)
 obtain ⟨z3,hz3,q⟩ := bE q
 refine lI (Int×Int) Int (fun x=>⟨[(2,.dat T4 (u64.wrap (y_ * 2 ^ min (Int.toNat (u64.wrap q6_7)) u64.bits))),(8,.dat T4 (u64.wrap q6_7)),(9,.dat T4 (Int.fdiv (u64.wrap (y_ * 2 ^ min (Int.toNat (u64.wrap q6_7)) u64.bits)) (2 ^ min (Int.toNat (32:Int)) u64.bits))),(10,.dat T4 (bitsOf IntKind.u64 (fun p q=>p &&& q) (u64.wrap (y_ * 2 ^ min (Int.toNat (u64.wrap q6_7)) u64.bits)) (4294967295:Int))),(11,.dat T4 (bitsOf IntKind.u64 (fun p q=>p ||| q) (u64.wrap (hi * 2 ^ min (Int.toNat (u64.wrap q6_7)) u64.bits)) (Int.fdiv lo (2 ^ min (Int.toNat (u64.wrap ((64:Int) - (u64.wrap q6_7)))) u64.bits)))),(13,.dat T4 (Int.fdiv (u64.wrap (lo * 2 ^ min (Int.toNat (u64.wrap q6_7)) u64.bits)) (2 ^ min (Int.toNat (32:Int)) u64.bits))),(14,.dat T4 (bitsOf IntKind.u64 (fun p q=>p &&& q) (u64.wrap (lo * 2 ^ min (Int.toNat (u64.wrap q6_7)) u64.bits)) (4294967295:Int))),(15,.dat T4 x.1),(16,.dat T4 x.2)],[],0⟩) (fun z=>[(2,⟨[(2,.dat T4 (u64.wrap (y_ * 2 ^ min (Int.toNat (u64.wrap q6_7)) u64.bits))),(8,.dat T4 (u64.wrap q6_7)),(9,.dat T4 (Int.fdiv (u64.wrap (y_ * 2 ^ min (Int.toNat (u64.wrap q6_7)) u64.bits)) (2 ^ min (Int.toNat (32:Int)) u64.bits))),(10,.dat T4 (bitsOf IntKind.u64 (fun p q=>p &&& q) (u64.wrap (y_ * 2 ^ min (Int.toNat (u64.wrap q6_7)) u64.bits)) (4294967295:Int))),(11,.dat T4 (bitsOf IntKind.u64 (fun p q=>p ||| q) (u64.wrap (hi * 2 ^ min (Int.toNat (u64.wrap q6_7)) u64.bits)) (Int.fdiv lo (2 ^ min (Int.toNat (u64.wrap ((64:Int) - (u64.wrap q6_7)))) u64.bits)))),(13,.dat T4 (Int.fdiv (u64.wrap (lo * 2 ^ min (Int.toNat (u64.wrap q6_7)) u64.bits)) (2 ^ min (Int.toNat (32:Int)) u64.bits))),(14,.dat T4 (bitsOf IntKind.u64 (fun p q=>p &&& q) (u64.wrap (lo * 2 ^ min (Int.toNat (u64.wrap q6_7)) u64.bits)) (4294967295:Int))),(15,.dat T4 z)],[],0⟩)]) (loopF (fun go x=>f150_l3 lo y_ q6_7 go x.1 x.2)) fuelN ((u64.wrap (Int.tdiv (bitsOf IntKind.u64 (fun p q=>p ||| q) (u64.wrap (hi * 2 ^ min (Int.toNat (u64.wrap q6_7)) u64.bits)) (Int.fdiv lo (2 ^ min (Int.toNat (u64.wrap ((64:Int) - (u64.wrap q6_7)))) u64.bits))) (Int.fdiv (u64.wrap (y_ * 2 ^ min (Int.toNat (u64.wrap q6_7)) u64.bits)) (2 ^ min (Int.toNat (32:Int)) u64.bits)))),(u64.wrap ((bitsOf IntKind.u64 (fun p q=>p ||| q) (u64.wrap (hi * 2 ^ min (Int.toNat (u64.wrap q6_7)) u64.bits)) (Int.fdiv lo (2 ^ min (Int.toNat (u64.wrap ((64:Int) - (u64.wrap q6_7)))) u64.bits))) - (u64.wrap ((u64.wrap (Int.tdiv (bitsOf IntKind.u64 (fun p q=>p ||| q) (u64.wrap (hi * 2 ^ min (Int.toNat (u64.wrap q6_7)) u64.bits)) (Int.fdiv lo (2 ^ min (Int.toNat (u64.wrap ((64:Int) - (u64.wrap q6_7)))) u64.bits))) (Int.fdiv (u64.wrap (y_ * 2 ^ min (Int.toNat (u64.wrap q6_7)) u64.bits)) (2 ^ min (Int.toNat (32:Int)) u64.bits)))) * (Int.fdiv (u64.wrap (y_ * 2 ^ min (Int.toNat (u64.wrap q6_7)) u64.bits)) (2 ^ min (Int.toNat (32:Int)) u64.bits))))))) z3 (AI hz3 (AI (E4 [] (R10 (AI TV TV))) (AI (fun _ _ h=>lZ h) (AI (fun m=>curI (fun q1=>fun rhat z q=>?_)) ?_))))
 ·have q : f150_l3 lo y_ q6_7 (loopF (fun go x=>f150_l3 lo y_ q6_7 go x.1 x.2) m) q1 rhat = some z := q
  unfold f150_l3 at q
  obtain ⟨z4,hz4,q⟩ := bE q
  refine OQ ⟨Sum.elim (fun z4a=>[(0,⟨[(2,.dat T4 (u64.wrap (y_ * 2 ^ min (Int.toNat (u64.wrap q6_7)) u64.bits))),(8,.dat T4 (u64.wrap q6_7)),(9,.dat T4 (Int.fdiv (u64.wrap (y_ * 2 ^ min (Int.toNat (u64.wrap q6_7)) u64.bits)) (2 ^ min (Int.toNat (32:Int)) u64.bits))),(10,.dat T4 (bitsOf IntKind.u64 (fun p q=>p &&& q) (u64.wrap (y_ * 2 ^ min (Int.toNat (u64.wrap q6_7)) u64.bits)) (4294967295:Int))),(11,.dat T4 (bitsOf IntKind.u64 (fun p q=>p ||| q) (u64.wrap (hi * 2 ^ min (Int.toNat (u64.wrap q6_7)) u64.bits)) (Int.fdiv lo (2 ^ min (Int.toNat (u64.wrap ((64:Int) - (u64.wrap q6_7)))) u64.bits)))),(13,.dat T4 (Int.fdiv (u64.wrap (lo * 2 ^ min (Int.toNat (u64.wrap q6_7)) u64.bits)) (2 ^ min (Int.toNat (32:Int)) u64.bits))),(14,.dat T4 (bitsOf IntKind.u64 (fun p q=>p &&& q) (u64.wrap (lo * 2 ^ min (Int.toNat (u64.wrap q6_7)) u64.bits)) (4294967295:Int))),(15,.dat T4 q1),(16,.dat T4 rhat)],[],0⟩)]) (fun z4b=>[(2,⟨[(2,.dat T4 (u64.wrap (y_ * 2 ^ min (Int.toNat (u64.wrap q6_7)) u64.bits))),(8,.dat T4 (u64.wrap q6_7)),(9,.dat T4 (Int.fdiv (u64.wrap (y_ * 2 ^ min (Int.toNat (u64.wrap q6_7)) u64.bits)) (2 ^ min (Int.toNat (32:Int)) u64.bits))),(10,.dat T4 (bitsOf IntKind.u64 (fun p q=>p &&& q) (u64.wrap (y_ * 2 ^ min (Int.toNat (u64.wrap q6_7)) u64.bits)) (4294967295:Int))),(11,.dat T4 (bitsOf IntKind.u64 (fun p q=>p ||| q) (u64.wrap (hi * 2 ^ min (Int.toNat (u64.wrap q6_7)) u64.bits)) (Int.fdiv lo (2 ^ min (Int.toNat (u64.wrap ((64:Int) - (u64.wrap q6_7)))) u64.bits)))),(13,.dat T4 (Int.fdiv (u64.wrap (lo * 2 ^ min (Int.toNat (u64.wrap q6_7)) u64.bits)) (2 ^ min (Int.toNat (32:Int)) u64.bits))),(14,.dat T4 (bitsOf IntKind.u64 (fun p q=>p &&& q) (u64.wrap (lo * 2 ^ min (Int.toNat (u64.wrap q6_7)) u64.bits)) (4294967295:Int))),(15,.dat T4 q1)],[],0⟩)]) z4,?_,?_⟩
  ·have q := hz4
   clear hz4
   unfold f150_j4 at q
   refine OL (cN q (fun q=>?_) (fun q=>?_))
   ·refine gY (gY (gY (gY (gY (gY (gY (cF (cI q (fun q=>?_) (fun q=>?_)))))))))
    ·cases sE q
     refine E4 [] (R10 (AI TV TV))
    cases sE q
    refine E4 [] (R9 (AI TV TV))
   refine gN (gN (gN (gN (gN (gN (gN (cT (cT ?_))))))))
   cases sE q
   refine E4 [] (R10 (AI TV TV))
  rcases z4 with z4a | z4b
  ·dsimp only [sumF] at q
   refine AI (OL (OL (OL (cI q (fun q=>?_) (fun q=>?_))))) TV
   ·cases sE q
    refine E4 [] (R9 (AI TV TV))
   refine EI ((u64.wrap (q1 - (1:Int))),(u64.wrap (rhat + (Int.fdiv (u64.wrap (y_ * 2 ^ min (Int.toNat (u64.wrap q6_7)) u64.bits)) (2 ^ min (Int.toNat (32:Int)) u64.bits))))) (AI q (E4 [] (R10 (AI TV TV))))
  dsimp only [sumF] at q
  refine AI ?_ TV
  cases sE q
  refine E4 [] (R9 (AI TV TV))
 refine AI (OL (OL (gI q (fun q=>?_)))) TV
 refine OL (OL ?_)
 obtain ⟨z7,hz7,q⟩ := bE q
 refine lI (Int×Int) Int (fun x=>⟨[(2,.dat T4 (u64.wrap (y_ * 2 ^ min (Int.toNat (u64.wrap q6_7)) u64.bits))),(8,.dat T4 (u64.wrap q6_7)),(9,.dat T4 (Int.fdiv (u64.wrap (y_ * 2 ^ min (Int.toNat (u64.wrap q6_7)) u64.bits)) (2 ^ min (Int.toNat (32:Int)) u64.bits))),(10,.dat T4 (bitsOf IntKind.u64 (fun p q=>p &&& q) (u64.wrap (y_ * 2 ^ min (Int.toNat (u64.wrap q6_7)) u64.bits)) (4294967295:Int))),(14,.dat T4 (bitsOf IntKind.u64 (fun p q=>p &&& q) (u64.wrap (lo * 2 ^ min (Int.toNat (u64.wrap q6_7)) u64.bits)) (4294967295:Int))),(15,.dat T4 z3),(16,.dat T4 x.1),(17,.dat T4 (u64.wrap ((u64.wrap ((u64.wrap ((bitsOf IntKind.u64 (fun p q=>p ||| q) (u64.wrap (hi * 2 ^ min (Int.toNat (u64.wrap q6_7)) u64.bits)) (Int.fdiv lo (2 ^ min (Int.toNat (u64.wrap ((64:Int) - (u64.wrap q6_7)))) u64.bits))) * (4294967296:Int))) + (Int.fdiv (u64.wrap (lo * 2 ^ min (Int.toNat (u64.wrap q6_7)) u64.bits)) (2 ^ min (Int.toNat (32:Int)) u64.bits)))) - (u64.wrap (z3 * (u64.wrap (y_ * 2 ^ min (Int.toNat (u64.wrap q6_7)) u64.bits))))))),(18,.dat T4 x.2)],[],0⟩) (fun z=>[(4,⟨[(2,.dat T4 (u64.wrap (y_ * 2 ^ min (Int.toNat (u64.wrap q6_7)) u64.bits))),(8,.dat T4 (u64.wrap q6_7)),(14,.dat T4 (bitsOf IntKind.u64 (fun p q=>p &&& q) (u64.wrap (lo * 2 ^ min (Int.toNat (u64.wrap q6_7)) u64.bits)) (4294967295:Int))),(15,.dat T4 z3),(17,.dat T4 (u64.wrap ((u64.wrap ((u64.wrap ((bitsOf IntKind.u64 (fun p q=>p ||| q) (u64.wrap (hi * 2 ^ min (Int.toNat (u64.wrap q6_7)) u64.bits)) (Int.fdiv lo (2 ^ min (Int.toNat (u64.wrap ((64:Int) - (u64.wrap q6_7)))) u64.bits))) * (4294967296:Int))) + (Int.fdiv (u64.wrap (lo * 2 ^ min (Int.toNat (u64.wrap q6_7)) u64.bits)) (2 ^ min (Int.toNat (32:Int)) u64.bits)))) - (u64.wrap (z3 * (u64.wrap (y_ * 2 ^ min (Int.toNat (u64.wrap q6_7)) u64.bits))))))),(18,.dat T4 z)],[],0⟩)]) (loopF (fun go x=>f150_l7 lo y_ q6_7 go x.1 x.2)) fuelN ((u64.wrap ((u64.wrap ((u64.wrap ((u64.wrap ((bitsOf IntKind.u64 (fun p q=>p ||| q) (u64.wrap (hi * 2 ^ min (Int.toNat (u64.wrap q6_7)) u64.bits)) (Int.fdiv lo (2 ^ min (Int.toNat (u64.wrap ((64:Int) - (u64.wrap q6_7)))) u64.bits))) * (4294967296:Int))) + (Int.fdiv (u64.wrap (lo * 2 ^ min (Int.toNat (u64.wrap q6_7)) u64.bits)) (2 ^ min (Int.toNat (32:Int)) u64.bits)))) - (u64.wrap (z3 * (u64.wrap (y_ * 2 ^ min (Int.toNat (u64.wrap q6_7)) u64.bits)))))) - (u64.wrap ((u64.wrap (Int.tdiv (u64.wrap ((u64.wrap ((u64.wrap ((bitsOf IntKind.u64 (fun p q=>p ||| q) (u64.wrap (hi * 2 ^ min (Int.toNat (u64.wrap q6_7)) u64.bits)) (Int.fdiv lo (2 ^ min (Int.toNat (u64.wrap ((64:Int) - (u64.wrap q6_7)))) u64.bits))) * (4294967296:Int))) + (Int.fdiv (u64.wrap (lo * 2 ^ min (Int.toNat (u64.wrap q6_7)) u64.bits)) (2 ^ min (Int.toNat (32:Int)) u64.bits)))) - (u64.wrap (z3 * (u64.wrap (y_ * 2 ^ min (Int.toNat (u64.wrap q6_7)) u64.bits)))))) (Int.fdiv (u64.wrap (y_ * 2 ^ min (Int.toNat (u64.wrap q6_7)) u64.bits)) (2 ^ min (Int.toNat (32:Int)) u64.bits)))) * (Int.fdiv (u64.wrap (y_ * 2 ^ min (Int.toNat (u64.wrap q6_7)) u64.bits)) (2 ^ min (Int.toNat (32:Int)) u64.bits)))))),(u64.wrap (Int.tdiv (u64.wrap ((u64.wrap ((u64.wrap ((bitsOf IntKind.u64 (fun p q=>p ||| q) (u64.wrap (hi * 2 ^ min (Int.toNat (u64.wrap q6_7)) u64.bits)) (Int.fdiv lo (2 ^ min (Int.toNat (u64.wrap ((64:Int) - (u64.wrap q6_7)))) u64.bits))) * (4294967296:Int))) + (Int.fdiv (u64.wrap (lo * 2 ^ min (Int.toNat (u64.wrap q6_7)) u64.bits)) (2 ^ min (Int.toNat (32:Int)) u64.bits)))) - (u64.wrap (z3 * (u64.wrap (y_ * 2 ^ min (Int.toNat (u64.wrap q6_7)) u64.bits)))))) (Int.fdiv (u64.wrap (y_ * 2 ^ min (Int.toNat (u64.wrap q6_7)) u64.bits)) (2 ^ min (Int.toNat (32:Int)) u64.bits))))) z7 (AI hz7 (AI (E4 [] (R10 (AI TV TV))) (AI (fun _ _ h=>lZ h) (AI (fun m=>curI (fun rhat=>fun q0 z q=>?_)) ?_))))
 ·have q : f150_l7 lo y_ q6_7 (loopF (fun go x=>f150_l7 lo y_ q6_7 go x.1 x.2) m) rhat q0 = some z := q
  unfold f150_l7 at q
  obtain ⟨z8,hz8,q⟩ := bE q
  refine OQ ⟨Sum.elim (fun z8a=>[(0,⟨[(2,.dat T4 (u64.wrap (y_ * 2 ^ min (Int.toNat (u64.wrap q6_7)) u64.bits))),(8,.dat T4 (u64.wrap q6_7)),(9,.dat T4 (Int.fdiv (u64.wrap (y_ * 2 ^ min (Int.toNat (u64.wrap q6_7)) u64.bits)) (2 ^ min (Int.toNat (32:Int)) u64.bits))),(10,.dat T4 (bitsOf IntKind.u64 (fun p q=>p &&& q) (u64.wrap (y_ * 2 ^ min (Int.toNat (u64.wrap q6_7)) u64.bits)) (4294967295:Int))),(14,.dat T4 (bitsOf IntKind.u64 (fun p q=>p &&& q) (u64.wrap (lo * 2 ^ min (Int.toNat (u64.wrap q6_7)) u64.bits)) (4294967295:Int))),(15,.dat T4 z3),(16,.dat T4 rhat),(17,.dat T4 (u64.wrap ((u64.wrap ((u64.wrap ((bitsOf IntKind.u64 (fun p q=>p ||| q) (u64.wrap (hi * 2 ^ min (Int.toNat (u64.wrap q6_7)) u64.bits)) (Int.fdiv lo (2 ^ min (Int.toNat (u64.wrap ((64:Int) - (u64.wrap q6_7)))) u64.bits))) * (4294967296:Int))) + (Int.fdiv (u64.wrap (lo * 2 ^ min (Int.toNat (u64.wrap q6_7)) u64.bits)) (2 ^ min (Int.toNat (32:Int)) u64.bits)))) - (u64.wrap (z3 * (u64.wrap (y_ * 2 ^ min (Int.toNat (u64.wrap q6_7)) u64.bits))))))),(18,.dat T4 q0)],[],0⟩)]) (fun z8b=>[(4,⟨[(2,.dat T4 (u64.wrap (y_ * 2 ^ min (Int.toNat (u64.wrap q6_7)) u64.bits))),(8,.dat T4 (u64.wrap q6_7)),(14,.dat T4 (bitsOf IntKind.u64 (fun p q=>p &&& q) (u64.wrap (lo * 2 ^ min (Int.toNat (u64.wrap q6_7)) u64.bits)) (4294967295:Int))),(15,.dat T4 z3),(17,.dat T4 (u64.wrap ((u64.wrap ((u64.wrap ((bitsOf IntKind.u64 (fun p q=>p ||| q) (u64.wrap (hi * 2 ^ min (Int.toNat (u64.wrap q6_7)) u64.bits)) (Int.fdiv lo (2 ^ min (Int.toNat (u64.wrap ((64:Int) - (u64.wrap q6_7)))) u64.bits))) * (4294967296:Int))) + (Int.fdiv (u64.wrap (lo * 2 ^ min (Int.toNat (u64.wrap q6_7)) u64.bits)) (2 ^ min (Int.toNat (32:Int)) u64.bits)))) - (u64.wrap (z3 * (u64.wrap (y_ * 2 ^ min (Int.toNat (u64.wrap q6_7)) u64.bits))))))),(18,.dat T4 q0)],[],0⟩)]) z8,?_,?_⟩
  ·have q := hz8
   clear hz8
   unfold f150_j8 at q
   refine OL (cN q (fun q=>?_) (fun q=>?_))
   ·refine gY (gY (gY (gY (gY (gY (gY (cF (cI q (fun q=>?_) (fun q=>?_)))))))))
    ·cases sE q
     refine E4 [] (R10 (AI TV TV))
    cases sE q
    refine E4 [] (R7 (AI TV TV))
   refine gN (gN (gN (gN (gN (gN (gN (cT (cT ?_))))))))
   cases sE q
   refine E4 [] (R10 (AI TV TV))
  rcases z8 with z8a | z8b
  ·dsimp only [sumF] at q
   refine AI (OL (OL (OL (cI q (fun q=>?_) (fun q=>?_))))) TV
   ·cases sE q
    refine E4 [] (R7 (AI TV TV))
   refine EI ((u64.wrap (rhat + (Int.fdiv (u64.wrap (y_ * 2 ^ min (Int.toNat (u64.wrap q6_7)) u64.bits)) (2 ^ min (Int.toNat (32:Int)) u64.bits)))),(u64.wrap (q0 - (1:Int)))) (AI q (E4 [] (R10 (AI TV TV))))
  dsimp only [sumF] at q
  refine AI ?_ TV
  cases sE q
  refine E4 [] (R7 (AI TV TV))
 refine AI (OL (gI q (fun q=>?_))) TV
 cases sE q
 refine AI rfl (E4 [] (R3 (AI TV TV)))
theorem C150_holds : HP C150 150 := hH Tryz.f150 (by kernel_rfl) rfl (fun x y q=>C150_vc x.1 x.2.1 x.2.2 y q)
theorem f150_in : InP 150 := inP (by kernel_rfl)
def f146_j3 (r2:Int) (r4 : Int×Int) : Option Bool :=
 bif (decide (r4.2 > (u64.wrap (r2 - r4.2)))) then
 some true
 else
 bif (r4.2 == (u64.wrap (r2 - r4.2))) then
 some ((bitsOf IntKind.u64 (fun p q=>p &&& q) r4.1 (1:Int)) == (1:Int))
 else
 some false
def f146_j2 (r2:Int) (r4 : Int×Int) : Option (Int×Int) :=
 bindF (f146_j3 r2 r4) fun z8 =>
 bif z8 then
 bindF (add64 r4.1 (1:Int) (0:Int)) fun r9 =>
 some (r9.1,r9.2)
 else
 some (r4.1,(0:Int))
def f146 (a:Int) (b:Int) : Option Int :=
 bif (b == (0:Int)) then
 bif (decide (a > (0:Int))) then
 some (9223372036854775807:Int)
 else
 bif (decide (a < (0:Int))) then
 some (-9223372036854775808:Int)
 else
 some (0:Int)
 else
 bindF (f165 a) fun r1 =>
 bindF (f165 b) fun r2 =>
 bif (decide ((Int.fdiv r1 (2 ^ min (Int.toNat (32:Int)) u64.bits)) ≥ r2)) then
 bindF (f166 (1:Int) (0:Int) (!((decide (a < (0:Int))) == (decide (b < (0:Int)))))) fun r3 =>
 some r3
 else
 bindF (f150 (Int.fdiv r1 (2 ^ min (Int.toNat (32:Int)) u64.bits)) (u64.wrap (r1 * 2 ^ min (Int.toNat (32:Int)) u64.bits)) r2) fun r4 =>
 bindF (f146_j2 r2 r4) fun z7 =>
 bindF (f166 z7.2 z7.1 (!((decide (a < (0:Int))) == (decide (b < (0:Int)))))) fun r10 =>
 some r10
def C146 : Con where
 X := Int×Int
 Y := Int
 e := 0
 args x := [.dat T2 x.1,.dat T2 x.2]
 hin x := []
 F x := f146 x.1 x.2
 ret y := [.dat T2 y]
 hout y := []
 nout := 0
theorem C146_vc (a:Int) (b:Int) (y:Int) (q : f146 a b = some y) : VC Tryz.f146 C146 (a,b) y := by
 unfold f146 at q
 refine OL (OL (OL (cI q (fun q=>?_) (fun q=>?_))))
 ·refine OL (OL (cI q (fun q=>?_) (fun q=>?_)))
  ·cases sE q
   refine OL (AI rfl (E4 [] (R2 (AI TV TV))))
  refine OL (cI q (fun q=>?_) (fun q=>?_))
  ·cases sE q
   refine OL (AI rfl (E4 [] (R2 (AI TV TV))))
  cases sE q
  refine OL (AI rfl (E4 [] (R2 (AI TV TV))))
 refine OL ?_
 obtain ⟨r1,hr1,q⟩ := bE q
 refine OL (AI f165_in (cV (cQ C165 a r1 [] false C165_holds hr1 rfl rfl (AI rfl (K0 ?_)))))
 obtain ⟨r2,hr2,q⟩ := bE q
 refine OL (AI f165_in (cV (cQ C165 b r2 [] false C165_holds hr2 rfl rfl (AI rfl (K0 (OL (OL (AI (by decide) (AI (by decide) (OL (OL (cI q (fun q=>?_) (fun q=>?_)))))))))))))
 ·refine OL ?_
  obtain ⟨r3,hr3,q⟩ := bE q
  refine OL (AI f166_in (cV (cQ C166 ((1:Int),(0:Int),(!((decide (a < (0:Int))) == (decide (b < (0:Int)))))) r3 [] false C166_holds hr3 rfl rfl (R3 (K0 ?_)))))
  cases sE q
  refine AI rfl (E4 [] (R2 (AI TV TV)))
 refine OL ?_
 obtain ⟨r4,hr4,q⟩ := bE q
 refine OL (AI f150_in (cV (cQ C150 ((Int.fdiv r1 (2 ^ min (Int.toNat (32:Int)) u64.bits)),(u64.wrap (r1 * 2 ^ min (Int.toNat (32:Int)) u64.bits)),r2) r4 [] false C150_holds hr4 rfl rfl (R3 (K0 (OL ?_))))))
 obtain ⟨z7,hz7,q⟩ := bE q
 refine OQ ⟨[(0,⟨[(7,.dat .bool (!((decide (a < (0:Int))) == (decide (b < (0:Int)))))),(10,.dat T4 z7.1),(12,.dat T4 z7.2)],[],0⟩)],?_,?_⟩
 ·have q := hz7
  clear hz7
  unfold f146_j2 at q
  obtain ⟨z8,hz8,q⟩ := bE q
  refine OQ ⟨[(0,⟨[(7,.dat .bool (!((decide (a < (0:Int))) == (decide (b < (0:Int)))))),(10,.dat T4 r4.1),(12,.dat T4 (0:Int)),(62,.dat .bool z8)],[],0⟩)],?_,?_⟩
  ·have q := hz8
   clear hz8
   unfold f146_j3 at q
   refine cN q (fun q=>?_) (fun q=>?_)
   ·refine gY (gY (gY (gY (gY (cI q (fun q=>?_) (fun q=>?_))))))
    ·refine gX (gX (gY (cT (cF ?_))))
     cases sE q
     refine E4 [] (R5 (AI TV TV))
    refine gM (gM (gY (cF (cF ?_))))
    cases sE q
    refine E4 [] (R5 (AI TV TV))
   refine gN (gN (gN (gN (gN (gN (cT ?_))))))
   cases sE q
   refine E4 [] (R5 (AI TV TV))
  refine AI (cI q (fun q=>?_) (fun q=>?_)) TV
  ·obtain ⟨r9,hr9,q⟩ := bE q
   refine OQ ⟨ext3 add64,[r9.1,r9.2],add64_ok,AI (ext3I hr9) ?_⟩
   cases sE q
   refine E4 [] (R4 (AI TV TV))
  cases sE q
  refine E4 [] (R4 (AI TV TV))
 refine AI (OL ?_) TV
 obtain ⟨r10,hr10,q⟩ := bE q
 refine OL (AI f166_in (cV (cQ C166 (z7.2,z7.1,(!((decide (a < (0:Int))) == (decide (b < (0:Int)))))) r10 [] false C166_holds hr10 rfl rfl (R3 (K0 ?_)))))
 cases sE q
 refine AI rfl (E4 [] (R2 (AI TV TV)))
theorem C146_holds : HP C146 146 := hH Tryz.f146 (by kernel_rfl) rfl (fun x y q=>C146_vc x.1 x.2 y q)
theorem f146_in : InP 146 := inP (by kernel_rfl)
def f148 (a : Int×Int) : Option (Int×Int×Bool) :=
 bif (decide (a.1 < (0:Int))) then
 bindF (f152 (a.1,a.2)) fun q4_7 =>
 some ((u64.wrap q4_7.1),q4_7.2,true)
 else
 some ((u64.wrap a.1),a.2,false)
def C148 : Con where
 X := Int×Int
 Y := Int×Int×Bool
 e := 0
 args x := [.dat T5 x]
 hin x := []
 F x := f148 x
 ret y := [.dat T4 y.1,.dat T4 y.2.1,.dat .bool y.2.2]
 hout y := []
 nout := 0
theorem C148_vc (a : Int×Int) (y : Int×Int×Bool) (q : f148 a = some y) : VC Tryz.f148 C148 a y := by
 unfold f148 at q
 refine OL (OL (OL (cI q (fun q=>?_) (fun q=>?_))))
 ·refine OL ?_
  obtain ⟨q4_7,hq4_7,q⟩ := bE q
  refine OL (AI f152_in (cV (cQ C152 (a.1,a.2) q4_7 [] false C152_holds hq4_7 rfl rfl (R2 (K0 (OL (OL (EI (.take 0 (.take 1 (.take 2 (.take 3 (.take 4 (.take 5 (.take 6 (.take 7 .done)))))))) (EI [] (EI [] (AI rfl ?_)))))))))))
  cases sE q
  refine AI rfl (E4 [] (R4 (AI TV TV)))
 refine OL (EI (.take 0 (.take 1 (.take 2 (.take 3 (.take 4 (.take 5 (.take 6 (.take 7 .done)))))))) (EI [] (EI [] (AI rfl ?_))))
 cases sE q
 refine AI rfl (E4 [] (R4 (AI TV TV)))
theorem C148_holds : HP C148 148 := hH Tryz.f148 (by kernel_rfl) rfl (fun x y q=>C148_vc x y q)
theorem f148_in : InP 148 := inP (by kernel_rfl)
def f100_j3 (r4:Int) (q6_7 : Int×Int) : Option Bool :=
 bif (decide (q6_7.2 > (u64.wrap (r4 - q6_7.2)))) then
 some true
 else
 bif (q6_7.2 == (u64.wrap (r4 - q6_7.2))) then
 some ((bitsOf IntKind.u64 (fun p q=>p &&& q) q6_7.1 (1:Int)) == (1:Int))
 else
 some false
def f100_j2 (r3 : Int×Int×Bool) (r4:Int) (q6_7 : Int×Int) : Option (Int×Int) :=
 bindF (f100_j3 r4 q6_7) fun z8 =>
 bif z8 then
 bindF (add64 q6_7.1 (1:Int) (0:Int)) fun r9 =>
 some ((u64.wrap ((u64.wrap (Int.tdiv r3.1 r4)) + r9.2)),r9.1)
 else
 some ((u64.wrap (Int.tdiv r3.1 r4)),q6_7.1)
def f100 (a : Int×Int) (n:Int) : Option Int :=
 bif (n == (0:Int)) then
 bindF (f147 (a.1,a.2) ((0:Int),(0:Int))) fun r1 =>
 bindF (f146 r1 (0:Int)) fun r2 =>
 some r2
 else
 bindF (f148 (a.1,a.2)) fun r3 =>
 bindF (f149 n) fun r4 =>
 guardF (r4 ≠ 0) <|
 guardF (r4 ≠ 0) <|
 bindF (f150 (Int.tmod r3.1 r4) r3.2.1 r4) fun q6_7 =>
 bindF (f100_j2 r3 r4 q6_7) fun z7 =>
 bif (!(r3.2.2 == (decide (n < (0:Int))))) then
 bindF (f152 ((i64.wrap (if (9223372036854775807:Int) < z7.1 then (9223372036854775807:Int) else z7.1)),z7.2)) fun r10 =>
 bindF (f138 (r10.1,r10.2)) fun r11 =>
 some r11
 else
 bindF (f138 ((i64.wrap (if (9223372036854775807:Int) < z7.1 then (9223372036854775807:Int) else z7.1)),z7.2)) fun r12 =>
 some r12
def C100 : Con where
 X := (Int×Int)×Int
 Y := Int
 e := 0
 args x := [.dat T5 x.1,.dat T2 x.2]
 hin x := []
 F x := f100 x.1 x.2
 ret y := [.dat T2 y]
 hout y := []
 nout := 0
theorem C100_vc (a : Int×Int) (n:Int) (y:Int) (q : f100 a n = some y) : VC Tryz.f100 C100 (a,n) y := by
 unfold f100 at q
 refine OL (OL (OL (cI q (fun q=>?_) (fun q=>?_))))
 ·refine OL ?_
  obtain ⟨r1,hr1,q⟩ := bE q
  refine OL (AI f147_in (cV (cQ C147 ((a.1,a.2),((0:Int),(0:Int))) r1 [] false C147_holds hr1 rfl rfl (R4 (K0 ?_)))))
  obtain ⟨r2,hr2,q⟩ := bE q
  refine OL (AI f146_in (cV (cQ C146 (r1,(0:Int)) r2 [] false C146_holds hr2 rfl rfl (R2 (K0 ?_)))))
  cases sE q
  refine AI rfl (E4 [] (R2 (AI TV TV)))
 refine OL ?_
 obtain ⟨r3,hr3,q⟩ := bE q
 refine OL (AI f148_in (cV (cQ C148 (a.1,a.2) r3 [] false C148_holds hr3 rfl rfl (R2 (K0 (OL ?_))))))
 obtain ⟨r4,hr4,q⟩ := bE q
 refine OL (AI f149_in (cV (cQ C149 n r4 [] false C149_holds hr4 rfl rfl (AI rfl (K0 (OL (OL (EI (.take 0 (.take 1 (.take 2 (.take 3 (.take 4 (.take 5 (.take 6 (.take 7 .done)))))))) (EI [] (EI [] (AI rfl (gI q (fun q=>?_)))))))))))))
 refine gI q (fun q=>?_)
 refine OL ?_
 obtain ⟨q6_7,hq6_7,q⟩ := bE q
 refine OL (AI f150_in (cV (cQ C150 ((Int.tmod r3.1 r4),r3.2.1,r4) q6_7 [] false C150_holds hq6_7 rfl rfl (R3 (K0 ?_)))))
 obtain ⟨z7,hz7,q⟩ := bE q
 refine OQ ⟨[(0,⟨[(7,.dat .bool (!(r3.2.2 == (decide (n < (0:Int)))))),(9,.dat T4 z7.1),(11,.dat T4 z7.2)],[],0⟩)],?_,?_⟩
 ·have q := hz7
  clear hz7
  unfold f100_j2 at q
  obtain ⟨z8,hz8,q⟩ := bE q
  refine OQ ⟨[(0,⟨[(7,.dat .bool (!(r3.2.2 == (decide (n < (0:Int)))))),(9,.dat T4 (u64.wrap (Int.tdiv r3.1 r4))),(11,.dat T4 q6_7.1),(61,.dat .bool z8)],[],0⟩)],?_,?_⟩
  ·have q := hz8
   clear hz8
   unfold f100_j3 at q
   refine cN q (fun q=>?_) (fun q=>?_)
   ·refine gY (gY (gY (gY (gY (cI q (fun q=>?_) (fun q=>?_))))))
    ·refine gX (gX (gY (cT (cF ?_))))
     cases sE q
     refine E4 [] (R5 (AI TV TV))
    refine gM (gM (gY (cF (cF ?_))))
    cases sE q
    refine E4 [] (R5 (AI TV TV))
   refine gN (gN (gN (gN (gN (gN (cT ?_))))))
   cases sE q
   refine E4 [] (R5 (AI TV TV))
  refine AI (cI q (fun q=>?_) (fun q=>?_)) TV
  ·refine OL (OL ?_)
   obtain ⟨r9,hr9,q⟩ := bE q
   refine OQ ⟨ext3 add64,[r9.1,r9.2],add64_ok,AI (ext3I hr9) ?_⟩
   cases sE q
   refine E4 [] (R4 (AI TV TV))
  cases sE q
  refine E4 [] (R4 (AI TV TV))
 refine AI (OL (OL (OL (OL (cI q (fun q=>?_) (fun q=>?_)))))) TV
 ·refine OL ?_
  obtain ⟨r10,hr10,q⟩ := bE q
  refine OL (AI f152_in (cV (cQ C152 ((i64.wrap (if (9223372036854775807:Int) < z7.1 then (9223372036854775807:Int) else z7.1)),z7.2) r10 [] false C152_holds hr10 rfl rfl (R2 (K0 ?_)))))
  obtain ⟨r11,hr11,q⟩ := bE q
  refine OL (AI f138_in (cV (cQ C138 (r10.1,r10.2) r11 [] false C138_holds hr11 rfl rfl (R2 (K0 ?_)))))
  cases sE q
  refine AI rfl (E4 [] (R2 (AI TV TV)))
 refine OL ?_
 obtain ⟨r12,hr12,q⟩ := bE q
 refine OL (AI f138_in (cV (cQ C138 ((i64.wrap (if (9223372036854775807:Int) < z7.1 then (9223372036854775807:Int) else z7.1)),z7.2) r12 [] false C138_holds hr12 rfl rfl (R2 (K0 ?_)))))
 cases sE q
 refine AI rfl (E4 [] (R2 (AI TV TV)))
theorem C100_holds : HP C100 100 := hH Tryz.f100 (by kernel_rfl) rfl (fun x y q=>C100_vc x.1 x.2 y q)
theorem f100_in : InP 100 := inP (by kernel_rfl)
def f91 (a : LI×LI) : Option (Int×Int) :=
 bindF (f33 (a.1,a.2)) fun q3_8 =>
 bif (!q3_8) then
 some ((0:Int),(1:Int))
 else
 bindF (f139 a.2) fun q3_2 =>
 bindF (f100 (q3_2.1,q3_2.2) (List.length a.2:Int)) fun q3_6 =>
 some (q3_6,(0:Int))
def C91 : Con where
 X := LI×LI
 Y := Int×Int
 e := 0
 args x := [.dat T3 x]
 hin x := []
 F x := f91 x
 ret y := [.dat T2 y.1,.dat T2 y.2]
 hout y := []
 nout := 0
theorem C91_vc (a : LI×LI) (y : Int×Int) (q : f91 a = some y) : VC Tryz.f91 C91 a y := by
 unfold f91 at q
 refine OL (OL (OL ?_))
 obtain ⟨q3_8,hq3_8,q⟩ := bE q
 refine OL (AI f33_in (cV (cQ C33 (a.1,a.2) q3_8 [] false C33_holds hq3_8 rfl rfl (R2 (K0 (cI q (fun q=>?_) (fun q=>?_)))))))
 ·cases sE q
  refine OL (AI rfl (E4 [] (R3 (AI TV TV))))
 refine OL (EI (.take 0 (.take 1 (.take 3 (.take 4 (.take 5 (.alt 2 (.alt 6 (.take 7 (.take 8 .done)) .done) .done)))))) (EI [] (EI [] (AI rfl (AI TV ?_)))))
 obtain ⟨q3_2,hq3_2,q⟩ := bE q
 refine OL (AI f139_in (cV (cQ C139 a.2 q3_2 [] false C139_holds hq3_2 rfl rfl (AI rfl (K0 (AI TV ?_))))))
 obtain ⟨q3_6,hq3_6,q⟩ := bE q
 refine OL (AI f100_in (cV (cQ C100 ((q3_2.1,q3_2.2),(List.length a.2:Int)) q3_6 [] false C100_holds hq3_6 rfl rfl (R3 (K0 ?_)))))
 cases sE q
 refine AI rfl (E4 [] (R3 (AI TV TV)))
theorem C91_holds : HP C91 91 := hH Tryz.f91 (by kernel_rfl) rfl (fun x y q=>C91_vc x y q)
theorem f91_in : InP 91 := inP (by kernel_rfl)
def f140 (kind:Int) : Option Bool :=
 bif (decide (kind ≥ (1:Int))) then
 some (decide (kind ≤ (5:Int)))
 else
 some false
def C140 : Con where
 X := Int
 Y := Bool
 e := 0
 args x := [.dat T2 x]
 hin x := []
 F x := f140 x
 ret y := [.dat .bool y]
 hout y := []
 nout := 0
theorem C140_vc (kind:Int) (y : Bool) (q : f140 kind = some y) : VC Tryz.f140 C140 kind y := by
 unfold f140 at q
 refine OL (OL (cI q (fun q=>?_) (fun q=>?_)))
 ·refine gX (cT ?_)
  cases sE q
  refine AI rfl (E4 [] (R2 (AI TV TV)))
 refine gM (cF ?_)
 cases sE q
 refine AI rfl (E4 [] (R2 (AI TV TV)))
theorem C140_holds : HP C140 140 := hH Tryz.f140 (by kernel_rfl) rfl (fun x y q=>C140_vc x y q)
theorem f140_in : InP 140 := inP (by kernel_rfl)
def f170 (n:Int) : Option Int :=
 bif (decide (n ≥ (2147483648:Int))) then
 some (9223372036854775807:Int)
 else
 bif (decide (n < (-2147483648:Int))) then
 some (-9223372036854775808:Int)
 else
 some (i64.wrap (n * 2 ^ min (Int.toNat (32:Int)) i64.bits))
def C170 : Con where
 X := Int
 Y := Int
 e := 0
 args x := [.dat T2 x]
 hin x := []
 F x := f170 x
 ret y := [.dat T2 y]
 hout y := []
 nout := 0
theorem C170_vc (n:Int) (y:Int) (q : f170 n = some y) : VC Tryz.f170 C170 n y := by
 unfold f170 at q
 refine OL (OL (OL (cI q (fun q=>?_) (fun q=>?_))))
 ·cases sE q
  refine OL (AI rfl (E4 [] (R2 (AI TV TV))))
 refine OL (cI q (fun q=>?_) (fun q=>?_))
 ·cases sE q
  refine OL (AI rfl (E4 [] (R2 (AI TV TV))))
 refine OL (AI (by decide) ?_)
 cases sE q
 refine AI rfl (E4 [] (R2 (AI TV TV)))
theorem C170_holds : HP C170 170 := hH Tryz.f170 (by kernel_rfl) rfl (fun x y q=>C170_vc x y q)
theorem f170_in : InP 170 := inP (by kernel_rfl)
def f171 (x_:Int) (lo:Int) (hi:Int) : Option Int :=
 some (if hi < (if lo > x_ then lo else x_) then hi else (if lo > x_ then lo else x_))
def C171 : Con where
 X := Int×Int×Int
 Y := Int
 e := 0
 args x := [.dat T2 x.1,.dat T2 x.2.1,.dat T2 x.2.2]
 hin x := []
 F x := f171 x.1 x.2.1 x.2.2
 ret y := [.dat T2 y]
 hout y := []
 nout := 0
theorem C171_vc (x_:Int) (lo:Int) (hi:Int) (y:Int) (q : f171 x_ lo hi = some y) : VC Tryz.f171 C171 (x_,lo,hi) y := by
 unfold f171 at q
 refine OL (OL ?_)
 cases sE q
 refine AI rfl (E4 [] (R2 (AI TV TV)))
theorem C171_holds : HP C171 171 := hH Tryz.f171 (by kernel_rfl) rfl (fun x y q=>C171_vc x.1 x.2.1 x.2.2 y q)
theorem f171_in : InP 171 := inP (by kernel_rfl)
def f172 (a:Int) : Option Int :=
 bif (a == (-9223372036854775808:Int)) then
 some (9223372036854775807:Int)
 else
 some (i64.wrap (0 - a))
def C172 : Con where
 X := Int
 Y := Int
 e := 0
 args x := [.dat T2 x]
 hin x := []
 F x := f172 x
 ret y := [.dat T2 y]
 hout y := []
 nout := 0
theorem C172_vc (a:Int) (y:Int) (q : f172 a = some y) : VC Tryz.f172 C172 a y := by
 unfold f172 at q
 refine OL (OL (OL (cI q (fun q=>?_) (fun q=>?_))))
 ·cases sE q
  refine OL (AI rfl (E4 [] (R2 (AI TV TV))))
 cases sE q
 refine OL (AI rfl (E4 [] (R2 (AI TV TV))))
theorem C172_holds : HP C172 172 := hH Tryz.f172 (by kernel_rfl) rfl (fun x y q=>C172_vc x y q)
theorem f172_in : InP 172 := inP (by kernel_rfl)
def f141 (kind:Int) (x_:Int) : Option (Int×Int) :=
 bif (kind == (1:Int)) then
 some ((if (0:Int) > x_ then (0:Int) else x_),(0:Int))
 else
 bif (kind == (2:Int)) then
 bif (decide (x_ > (0:Int))) then
 some (x_,(0:Int))
 else
 bindF (f170 (8:Int)) fun r1 =>
 bindF (f146 x_ r1) fun r2 =>
 some (r2,(0:Int))
 else
 bif (kind == (3:Int)) then
 bindF (f171 x_ (-4294967296:Int) (4294967296:Int)) fun r3 =>
 some (r3,(0:Int))
 else
 bif (kind == (4:Int)) then
 bif (decide (x_ < (0:Int))) then
 bindF (f172 x_) fun r4 =>
 some (r4,(0:Int))
 else
 some (x_,(0:Int))
 else
 bif (kind == (5:Int)) then
 bindF (f170 (2:Int)) fun r5 =>
 bindF (f146 x_ r5) fun r6 =>
 bindF (f125 r6 (2147483648:Int)) fun r7 =>
 bindF (f171 r7 (0:Int) (4294967296:Int)) fun r8 =>
 some (r8,(0:Int))
 else
 some ((0:Int),(1:Int))
def C141 : Con where
 X := Int×Int
 Y := Int×Int
 e := 0
 args x := [.dat T2 x.1,.dat T2 x.2]
 hin x := []
 F x := f141 x.1 x.2
 ret y := [.dat T2 y.1,.dat T2 y.2]
 hout y := []
 nout := 0
theorem C141_vc (kind:Int) (x_:Int) (y : Int×Int) (q : f141 kind x_ = some y) : VC Tryz.f141 C141 (kind,x_) y := by
 unfold f141 at q
 refine OL (OL (OL (OL (cI q (fun q=>?_) (fun q=>?_)))))
 ·cases sE q
  refine OL (AI rfl (E4 [] (R3 (AI TV TV))))
 refine OL (cI q (fun q=>?_) (fun q=>?_))
 ·refine OL (OL (cI q (fun q=>?_) (fun q=>?_)))
  ·cases sE q
   refine OL (AI rfl (E4 [] (R3 (AI TV TV))))
  refine OL ?_
  obtain ⟨r1,hr1,q⟩ := bE q
  refine OL (AI f170_in (cV (cQ C170 (8:Int) r1 [] false C170_holds hr1 rfl rfl (AI rfl (K0 ?_)))))
  obtain ⟨r2,hr2,q⟩ := bE q
  refine OL (AI f146_in (cV (cQ C146 (x_,r1) r2 [] false C146_holds hr2 rfl rfl (R2 (K0 ?_)))))
  cases sE q
  refine AI rfl (E4 [] (R3 (AI TV TV)))
 refine OL (cI q (fun q=>?_) (fun q=>?_))
 ·refine OL ?_
  obtain ⟨r3,hr3,q⟩ := bE q
  have hr3 : C171.F (x_,(-4294967296:Int),(4294967296:Int)) = some r3 := hr3
  refine OL (AI f171_in (cV (cQ C171 _ r3 [] false C171_holds hr3 rfl rfl (R3 (K0 ?_)))))
  cases sE q
  refine AI rfl (E4 [] (R3 (AI TV TV)))
 refine OL (cI q (fun q=>?_) (fun q=>?_))
 ·refine OL (OL (cI q (fun q=>?_) (fun q=>?_)))
  ·refine OL ?_
   obtain ⟨r4,hr4,q⟩ := bE q
   refine OL (AI f172_in (cV (cQ C172 x_ r4 [] false C172_holds hr4 rfl rfl (AI rfl (K0 ?_)))))
   cases sE q
   refine AI rfl (E4 [] (R3 (AI TV TV)))
  cases sE q
  refine OL (AI rfl (E4 [] (R3 (AI TV TV))))
 refine OL (cI q (fun q=>?_) (fun q=>?_))
 ·refine OL ?_
  obtain ⟨r5,hr5,q⟩ := bE q
  refine OL (AI f170_in (cV (cQ C170 (2:Int) r5 [] false C170_holds hr5 rfl rfl (AI rfl (K0 ?_)))))
  obtain ⟨r6,hr6,q⟩ := bE q
  refine OL (AI f146_in (cV (cQ C146 (x_,r5) r6 [] false C146_holds hr6 rfl rfl (R2 (K0 ?_)))))
  obtain ⟨r7,hr7,q⟩ := bE q
  refine OL (AI f125_in (cV (cQ C125 (r6,(2147483648:Int)) r7 [] false C125_holds hr7 rfl rfl (R2 (K0 ?_)))))
  obtain ⟨r8,hr8,q⟩ := bE q
  refine OL (AI f171_in (cV (cQ C171 (r7,(0:Int),(4294967296:Int)) r8 [] false C171_holds hr8 rfl rfl (R3 (K0 ?_)))))
  cases sE q
  refine AI rfl (E4 [] (R3 (AI TV TV)))
 cases sE q
 refine OL (AI rfl (E4 [] (R3 (AI TV TV))))
theorem C141_holds : HP C141 141 := hH Tryz.f141 (by kernel_rfl) rfl (fun x y q=>C141_vc x.1 x.2 y q)
theorem f141_in : InP 141 := inP (by kernel_rfl)
def f92_j3 (kind:Int) (t : LI×LI) : Option Bool :=
 bindF (f140 kind) fun r9 =>
 bif (!r9) then
 some true
 else
 bindF (f33 (t.1,t.2)) fun r10 =>
 some (!r10)
def f92_j2 (kind:Int) (t : LI×LI) : Option (Sum Unit Unit) :=
 bindF (f92_j3 kind t) fun z8 =>
 bif z8 then
 some (Sum.inr ())
 else
 some (Sum.inl ())
def f92_l4 (kind:Int) (t : LI×LI) (go : (Int×LI) → Option LI) (v23:Int) (l3 : LI) : Option LI :=
 bif (decide (v23 < (List.length t.2:Int))) then
 guardF (0 ≤ v23 ∧ v23 < (List.length t.2:Int)) <|
 bindF (f141 kind (rd (0:Int) t.2 v23)) fun q7_5 =>
 guardF (0 ≤ v23 ∧ v23 < (List.length l3:Int)) <|
 go ((i64.wrap (v23 + (1:Int))),(List.set l3 (Int.toNat v23) q7_5.1))
 else
 some l3
def f92 (kind:Int) (t : LI×LI) : Option (Int×LI×LI) :=
 bindF (f92_j2 kind t) fun z5 =>
 sumF z5 (fun z5a =>
 bindF (f35 (t.1,t.2)) fun r11 =>
 bindF (loopF (fun go x=>f92_l4 kind t go x.1 x.2) fuelN ((0:Int),r11.2)) fun z12 =>
 some ((0:Int),r11.1,z12)) (fun z5b =>
 some ((1:Int),[],[]))
def C92 : Con where
 X := Int×(LI×LI)
 Y := Int×LI×LI
 e := 0
 args x := [.dat T2 x.1,.dat T3 x.2]
 hin x := []
 F x := f92 x.1 x.2
 ret y := [.raw true [(.osl 0),(.osl 1)],.dat T2 y.1]
 hout y := [(0,.arr 3 T2 y.2.1),(1,.arr 33 T2 y.2.2)]
 nout := 2
theorem C92_vc (kind:Int) (t : LI×LI) (y : Int×LI×LI) (q : f92 kind t = some y) : VC Tryz.f92 C92 (kind,t) y := by
 unfold f92 at q
 refine OL ?_
 obtain ⟨z5,hz5,q⟩ := bE q
 refine OQ ⟨Sum.elim (fun z5a=>[(0,⟨[(0,.dat T2 kind),(3,P0 0 0),(4,P0 1 0)],[(0,.cells [(.d T1 t.1),(.d T1 t.2)]),(1,.cells [N0,N0])],2⟩)]) (fun z5b=>[(1,⟨[(4,P0 0 0),(5,D0 1)],[(0,.cells [N0,N0])],1⟩)]) z5,?_,?_⟩
 ·have q := hz5
  clear hz5
  unfold f92_j2 at q
  obtain ⟨z8,hz8,q⟩ := bE q
  refine OQ ⟨[(0,⟨[(0,.dat T2 kind),(3,P0 0 0),(4,P0 1 0),(16,.dat .bool z8)],[(0,.cells [(.d T1 t.1),(.d T1 t.2)]),(1,.cells [N0,N0])],2⟩)],?_,?_⟩
  ·have q := hz8
   clear hz8
   unfold f92_j3 at q
   obtain ⟨r9,hr9,q⟩ := bE q
   refine OL (AI f140_in (cV (cQ C140 kind r9 [] false C140_holds hr9 rfl rfl (AI rfl (K0 (cN q (fun q=>?_) (fun q=>?_)))))))
   ·refine gY ?_
    obtain ⟨r10,hr10,q⟩ := bE q
    refine OL (AI f33_in (cV (cQ C33 (t.1,t.2) r10 [] false C33_holds hr10 rfl rfl (R2 (K0 (gY (cF ?_)))))))
    cases sE q
    refine E4 I2 (R3 (AI (R2 TV) (R2 TV)))
   refine gN (gN (cT ?_))
   cases sE q
   refine E4 I2 (R3 (AI (R2 TV) (R2 TV)))
  refine AI (cI q (fun q=>?_) (fun q=>?_)) TV
  ·refine OL (OL ?_)
   cases sE q
   refine E4 [(0,some 1)] (R2 (AJ (AI rfl TV)))
  cases sE q
  refine E4 I2 (R2 (AI (R2 TV) (R2 TV)))
 rcases z5 with z5a | z5b
 ·dsimp only [sumF] at q
  refine AI (OL ?_) TV
  obtain ⟨r11,hr11,q⟩ := bE q
  refine OL (AI f35_in (cV (cQ C35 (t.1,t.2) r11 [] false C35_holds hr11 rfl rfl (R2 (K0 (OL (OL (OL ?_))))))))
  obtain ⟨z12,hz12,q⟩ := bE q
  refine lI (Int×LI) LI (fun x=>⟨[(0,.dat T2 kind),(4,P0 0 0),(6,P0 1 0),(21,.dat T1 t.2),(22,.dat T2 (List.length t.2:Int)),(23,.dat T2 x.1)],[(0,.cells [N0,N0]),(1,.cells [(.osl 2),(.osl 3)]),(2,.arr 3 T2 r11.1),(3,.arr 33 T2 x.2)],4⟩) (fun z=>[(2,⟨[(4,P0 0 0),(6,P0 1 0)],[(0,.cells [N0,N0]),(1,.cells [(.osl 2),(.osl 3)]),(2,.arr 3 T2 r11.1),(3,.arr 33 T2 z)],4⟩)]) (loopF (fun go x=>f92_l4 kind t go x.1 x.2)) fuelN ((0:Int),r11.2) z12 (AI hz12 (AI (E4 [(0,some 1),(1,some 4),(2,some 2),(3,some 3)] (R5 (AI (R2 TV) (R4 TV)))) (AI (fun _ _ h=>lZ h) (AI (fun m=>curI (fun v23=>fun l3 z q=>?_)) ?_))))
  ·have q : f92_l4 kind t (loopF (fun go x=>f92_l4 kind t go x.1 x.2) m) v23 l3 = some z := q
   unfold f92_l4 at q
   refine OL (OL (cI q (fun q=>?_) (fun q=>?_)))
   ·refine OL (OL (gI q (fun q=>?_)))
    refine EI (.take 0 (.take 1 (.take 2 (.take 3 (.take 4 (.alt 5 (.take 6 (.take 7 (.take 8 (.take 9 (.alt 10 .done .done))))) .done)))))) (EI [] (EI [] (AI rfl (AI TV ?_))))
    obtain ⟨q7_5,hq7_5,q⟩ := bE q
    refine OL (AI f141_in (cV (cQ C141 (kind,(rd (0:Int) t.2 v23)) q7_5 [] false C141_holds hq7_5 rfl rfl (R2 (K0 (gI q (fun q=>?_)))))))
    refine AI TV (OL (EI ((i64.wrap (v23 + (1:Int))),(List.set l3 (Int.toNat v23) q7_5.1)) (AI q (E4 I4 (R5 (AI (R2 TV) (R4 TV)))))))
   cases sE q
   refine E4 I4 (AI rfl (AI (R2 TV) (R4 TV)))
  refine AI (OL (OL ?_)) TV
  cases sE q
  refine AI rfl (E4 [(0,some 2),(1,some 3)] (R2 (AJ (R2 TV))))
 dsimp only [sumF] at q
 refine AI ?_ TV
 cases sE q
 refine AI rfl (E4 [(0,none),(1,none)] (R2 (AJ (R2 TV))))
theorem C92_holds : HP C92 92 := hH Tryz.f92 (by kernel_rfl) rfl (fun x y q=>C92_vc x.1 x.2 y q)
theorem f92_in : InP 92 := inP (by kernel_rfl)
def f93_j3 (a : LI×LI) (wid:Int) : Option Bool :=
 bif (decide (wid < (1:Int))) then
 some true
 else
 guardF (0 ≤ (1:Int) ∧ (1:Int) < (List.length a.1:Int)) <|
 some (decide (wid > (rd (0:Int) a.1 (1:Int))))
def f93_j2 (a : LI×LI) (wid:Int) : Option (Sum Unit Int) :=
 bindF (f33 (a.1,a.2)) fun r4 =>
 bif (!r4) then
 some (Sum.inr (1:Int))
 else
 bif ((List.length a.1:Int) != (2:Int)) then
 some (Sum.inr (4:Int))
 else
 bindF (f93_j3 a wid) fun z5 =>
 bif z5 then
 some (Sum.inr (1:Int))
 else
 some (Sum.inl ())
def f93_l7 (a : LI×LI) (wid:Int) (v61:Int) (go : (Int×Int) → Option Int) (best:Int) (at_:Int) : Option Int :=
 guardF ((i64.wrap (Int.tdiv (rd (0:Int) a.1 (1:Int)) wid)) ≠ 0) <|
 guardF ((i64.wrap (Int.tdiv (rd (0:Int) a.1 (1:Int)) wid)) ≠ 0) <|
 bif (decide (at_ < (i64.wrap ((i64.wrap ((i64.wrap ((i64.wrap (Int.tdiv v61 (i64.wrap (Int.tdiv (rd (0:Int) a.1 (1:Int)) wid)))) * (rd (0:Int) a.1 (1:Int)))) + (i64.wrap ((Int.tmod v61 (i64.wrap (Int.tdiv (rd (0:Int) a.1 (1:Int)) wid))) * wid)))) + wid)))) then
 guardF (0 ≤ at_ ∧ at_ < (List.length a.2:Int)) <|
 guardF (0 ≤ best ∧ best < (List.length a.2:Int)) <|
 bif (decide ((rd (0:Int) a.2 at_) > (rd (0:Int) a.2 best))) then
 go (at_,(i64.wrap (at_ + (1:Int))))
 else
 go (best,(i64.wrap (at_ + (1:Int))))
 else
 some best
def f93_l6 (a : LI×LI) (wid:Int) (q7_11 : Int×LI×LI) (go : (Int×LI×LI) → Option (LI×LI)) (v61:Int) (l3 : LI) (l5 : LI) : Option (LI×LI) :=
 bif (decide (v61 < (List.length q7_11.2.2:Int))) then
 guardF ((i64.wrap (Int.tdiv (rd (0:Int) a.1 (1:Int)) wid)) ≠ 0) <|
 guardF ((i64.wrap (Int.tdiv (rd (0:Int) a.1 (1:Int)) wid)) ≠ 0) <|
 bindF (loopF (fun go x=>f93_l7 a wid v61 go x.1 x.2) fuelN ((i64.wrap ((i64.wrap ((i64.wrap (Int.tdiv v61 (i64.wrap (Int.tdiv (rd (0:Int) a.1 (1:Int)) wid)))) * (rd (0:Int) a.1 (1:Int)))) + (i64.wrap ((Int.tmod v61 (i64.wrap (Int.tdiv (rd (0:Int) a.1 (1:Int)) wid))) * wid)))),(i64.wrap ((i64.wrap ((i64.wrap ((i64.wrap (Int.tdiv v61 (i64.wrap (Int.tdiv (rd (0:Int) a.1 (1:Int)) wid)))) * (rd (0:Int) a.1 (1:Int)))) + (i64.wrap ((Int.tmod v61 (i64.wrap (Int.tdiv (rd (0:Int) a.1 (1:Int)) wid))) * wid)))) + (1:Int))))) fun z9 =>
 guardF (0 ≤ z9 ∧ z9 < (List.length a.2:Int)) <|
 guardF (0 ≤ v61 ∧ v61 < (List.length l5:Int)) <|
 guardF ((List.length l3 + List.length ([z9])) * 8 ≤ 140737488355328) <|
 go ((i64.wrap (v61 + (1:Int))),(l3 ++ ([z9])),(List.set l5 (Int.toNat v61) (rd (0:Int) a.2 z9)))
 else
 some (l3,l5)
def f93 (a : LI×LI) (wid:Int) : Option (Int×LI×LI×LI) :=
 bindF (f93_j2 a wid) fun z3 =>
 sumF z3 (fun z3a =>
 guardF (0 ≤ (1:Int) ∧ (1:Int) < (List.length a.1:Int)) <|
 guardF (0 ≤ (1:Int) ∧ (1:Int) < (List.length a.1:Int)) <|
 guardF (wid ≠ 0) <|
 guardF (0 ≤ (0:Int) ∧ (0:Int) < (List.length a.1:Int)) <|
 bindF (f132 ([(rd (0:Int) a.1 (0:Int)),(i64.wrap (Int.tdiv (rd (0:Int) a.1 (1:Int)) wid))])) fun q7_11 =>
 bindF (loopF (fun go x=>f93_l6 a wid q7_11 go x.1 x.2.1 x.2.2) fuelN ((0:Int),[],q7_11.2.2)) fun z8 =>
 some ((0:Int),q7_11.2.1,z8.2,z8.1)) (fun z3b =>
 some (z3b,[],[],[]))
def C93 : Con where
 X := (LI×LI)×Int
 Y := Int×LI×LI×LI
 e := 0
 args x := [.dat T3 x.1,.dat T2 x.2]
 hin x := []
 F x := f93 x.1 x.2
 ret y := [.raw true [(.osl 0),(.osl 1)],O0 2,.dat T2 y.1]
 hout y := [(0,.arr 3 T2 y.2.1),(1,.arr 33 T2 y.2.2.1),(2,.arr 3 T2 y.2.2.2)]
 nout := 3
theorem C93_vc (a : LI×LI) (wid:Int) (y : Int×LI×LI×LI) (q : f93 a wid = some y) : VC Tryz.f93 C93 (a,wid) y := by
 unfold f93 at q
 refine OL ?_
 obtain ⟨z3,hz3,q⟩ := bE q
 refine OQ ⟨Sum.elim (fun z3a=>[(0,⟨[(1,.dat T2 wid),(2,P0 0 0),(4,P0 1 0)],[(0,.cells [(.d T1 a.1),(.d T1 a.2)]),(1,.cells [N0,N0])],2⟩)]) (fun z3b=>[(1,⟨[(4,P0 0 0),(5,.raw false [N0]),(6,.dat T2 z3b)],[(0,.cells [N0,N0])],1⟩)]) z3,?_,?_⟩
 ·have q := hz3
  clear hz3
  unfold f93_j2 at q
  refine OL ?_
  obtain ⟨r4,hr4,q⟩ := bE q
  refine OL (AI f33_in (cV (cQ C33 (a.1,a.2) r4 [] false C33_holds hr4 rfl rfl (R2 (K0 (cI q (fun q=>?_) (fun q=>?_)))))))
  ·refine OL (OL ?_)
   cases sE q
   refine E4 [(0,some 1)] (R2 (AI (R2 TV) (AI rfl TV)))
  refine OL (cI q (fun q=>?_) (fun q=>?_))
  ·refine OL (OL ?_)
   cases sE q
   refine E4 [(0,some 1)] (R2 (AI (R2 TV) (AI rfl TV)))
  obtain ⟨z5,hz5,q⟩ := bE q
  refine OQ ⟨[(0,⟨[(1,.dat T2 wid),(2,P0 0 0),(4,P0 1 0),(26,.dat .bool z5)],[(0,.cells [(.d T1 a.1),(.d T1 a.2)]),(1,.cells [N0,N0])],2⟩)],?_,?_⟩
  ·have q := hz5
   clear hz5
   unfold f93_j3 at q
   refine cN q (fun q=>?_) (fun q=>?_)
   ·refine gY (gY (gY (gI q (fun q=>?_))))
    refine gY (gY (cF ?_))
    cases sE q
    refine E4 I2 (R3 (AI (R2 TV) (R2 TV)))
   refine gN (gN (gN (gN (gN (cT ?_)))))
   cases sE q
   refine E4 I2 (R3 (AI (R2 TV) (R2 TV)))
  refine AI (cI q (fun q=>?_) (fun q=>?_)) TV
  ·refine OL (OL ?_)
   cases sE q
   refine E4 [(0,some 1)] (R2 (AI (R2 TV) (AI rfl TV)))
  cases sE q
  refine E4 I2 (R2 (AI (R2 TV) (R2 TV)))
 rcases z3 with z3a | z3b
 ·dsimp only [sumF] at q
  refine AI (OL (EI (.take 0 (.take 1 (.take 2 (.take 3 (.take 4 (.take 5 (.take 6 (.take 7 (.take 8 (.take 9 (.take 10 (.take 11 .done)))))))))))) (EI [] (EI [] (AI rfl (gI q (fun q=>?_))))))) TV
  refine gI q (fun q=>?_)
  refine gI q (fun q=>?_)
  refine OL (gI q (fun q=>?_))
  refine OL ?_
  obtain ⟨q7_11,hq7_11,q⟩ := bE q
  refine OL (AI f132_in (cV (cQ C132 [(rd (0:Int) a.1 (0:Int)),(i64.wrap (Int.tdiv (rd (0:Int) a.1 (1:Int)) wid))] q7_11 [] true C132_holds hq7_11 rfl rfl (AI rfl (AI (fun _=>rfl) (R2 (AI TV (AI TV (OL (OL (OL (OL ?_))))))))))))
  obtain ⟨z8,hz8,q⟩ := bE q
  refine lI (Int×LI×LI) (LI×LI) (fun x=>⟨[(1,.dat T2 wid),(2,P0 0 0),(4,P0 1 0),(7,.dat T2 (rd (0:Int) a.1 (1:Int))),(8,.dat T2 (i64.wrap (Int.tdiv (rd (0:Int) a.1 (1:Int)) wid))),(9,P0 2 0),(11,O0 3),(60,.dat T2 (List.length q7_11.2.2:Int)),(61,.dat T2 x.1)],[(0,.cells [(.d T1 a.1),(.d T1 a.2)]),(1,.cells [N0,N0]),(2,.cells [(.osl 4),(.osl 5)]),(3,.arr 3 T2 x.2.1),(4,.arr 3 T2 q7_11.2.1),(5,.arr 33 T2 x.2.2)],6⟩) (fun z=>[(3,⟨[(4,P0 0 0),(9,P0 1 0),(11,O0 2)],[(0,.cells [N0,N0]),(1,.cells [(.osl 3),(.osl 4)]),(2,.arr 3 T2 z.1),(3,.arr 3 T2 q7_11.2.1),(4,.arr 33 T2 z.2)],5⟩)]) (loopF (fun go x=>f93_l6 a wid q7_11 go x.1 x.2.1 x.2.2)) fuelN ((0:Int),[],q7_11.2.2) z8 (AI hz8 (AI (E4 [(0,some 0),(1,some 1),(2,some 5),(3,none),(4,some 3),(5,some 4)] (R6 (AI (R4 TV) (R6 TV)))) (AI (fun _ _ h=>lZ h) (AI (fun m=>curI (fun v61=>curI (fun l3=>fun l5 z q=>?_))) ?_))))
  ·have q : f93_l6 a wid q7_11 (loopF (fun go x=>f93_l6 a wid q7_11 go x.1 x.2.1 x.2.2) m) v61 l3 l5 = some z := q
   unfold f93_l6 at q
   refine OL (OL (cI q (fun q=>?_) (fun q=>?_)))
   ·refine OL (OL (OL (EI (.take 0 (.take 1 (.take 2 (.take 3 (.take 4 (.take 5 (.take 6 (.take 7 (.take 8 (.take 9 (.take 10 (.take 11 .done)))))))))))) (EI [] (EI [] (AI rfl (gI q (fun q=>?_))))))))
    refine gI q (fun q=>?_)
    refine OL (OL ?_)
    obtain ⟨z9,hz9,q⟩ := bE q
    refine lI (Int×Int) Int (fun x=>⟨[(1,.dat T2 wid),(2,P0 0 0),(4,P0 1 0),(7,.dat T2 (rd (0:Int) a.1 (1:Int))),(8,.dat T2 (i64.wrap (Int.tdiv (rd (0:Int) a.1 (1:Int)) wid))),(9,P0 2 0),(11,O0 3),(12,.dat T2 v61),(13,.dat T2 x.1),(14,.dat T2 x.2),(60,.dat T2 (List.length q7_11.2.2:Int)),(61,.dat T2 v61)],[(0,.cells [(.d T1 a.1),(.d T1 a.2)]),(1,.cells [N0,N0]),(2,.cells [(.osl 4),(.osl 5)]),(3,.arr 3 T2 l3),(4,.arr 3 T2 q7_11.2.1),(5,.arr 33 T2 l5)],6⟩) (fun z=>[(5,⟨[(1,.dat T2 wid),(2,P0 0 0),(4,P0 1 0),(7,.dat T2 (rd (0:Int) a.1 (1:Int))),(8,.dat T2 (i64.wrap (Int.tdiv (rd (0:Int) a.1 (1:Int)) wid))),(9,P0 2 0),(11,O0 3),(12,.dat T2 v61),(13,.dat T2 z),(60,.dat T2 (List.length q7_11.2.2:Int)),(61,.dat T2 v61)],[(0,.cells [(.d T1 a.1),(.d T1 a.2)]),(1,.cells [N0,N0]),(2,.cells [(.osl 4),(.osl 5)]),(3,.arr 3 T2 l3),(4,.arr 3 T2 q7_11.2.1),(5,.arr 33 T2 l5)],6⟩)]) (loopF (fun go x=>f93_l7 a wid v61 go x.1 x.2)) fuelN ((i64.wrap ((i64.wrap ((i64.wrap (Int.tdiv v61 (i64.wrap (Int.tdiv (rd (0:Int) a.1 (1:Int)) wid)))) * (rd (0:Int) a.1 (1:Int)))) + (i64.wrap ((Int.tmod v61 (i64.wrap (Int.tdiv (rd (0:Int) a.1 (1:Int)) wid))) * wid)))),(i64.wrap ((i64.wrap ((i64.wrap ((i64.wrap (Int.tdiv v61 (i64.wrap (Int.tdiv (rd (0:Int) a.1 (1:Int)) wid)))) * (rd (0:Int) a.1 (1:Int)))) + (i64.wrap ((Int.tmod v61 (i64.wrap (Int.tdiv (rd (0:Int) a.1 (1:Int)) wid))) * wid)))) + (1:Int)))) z9 (AI hz9 (AI (E4 I6 (R9 (AI (R4 TV) (R6 TV)))) (AI (fun _ _ h=>lZ h) (AI (fun m=>curI (fun best=>fun at_ z q=>?_)) ?_))))
    ·have q : f93_l7 a wid v61 (loopF (fun go x=>f93_l7 a wid v61 go x.1 x.2) m) best at_ = some z := q
     unfold f93_l7 at q
     refine OL (OL (EI (.take 0 (.take 1 (.take 2 (.take 3 (.take 4 (.take 5 (.take 6 (.take 7 (.take 8 (.take 9 (.take 10 (.take 11 (.take 12 (.take 13 (.take 14 .done))))))))))))))) (EI [] (EI [] (AI rfl (gI q (fun q=>?_)))))))
     refine gI q (fun q=>?_)
     refine cI q (fun q=>?_) (fun q=>?_)
     ·refine OL (OL (EI (.take 0 (.take 1 (.take 2 (.take 3 (.take 4 (.take 5 (.take 6 (.take 7 (.take 8 (.take 9 (.take 10 .done))))))))))) (EI [] (EI [] (AI rfl (gI q (fun q=>?_)))))))
      refine gI q (fun q=>?_)
      refine cI q (fun q=>?_) (fun q=>?_)
      ·refine EI (at_,(i64.wrap (at_ + (1:Int)))) (AI q (E4 I6 (R9 (AI (R4 TV) (R6 TV)))))
      refine EI (best,(i64.wrap (at_ + (1:Int)))) (AI q (E4 I6 (R9 (AI (R4 TV) (R6 TV)))))
     cases sE q
     refine E4 I6 (R8 (AI (R4 TV) (R6 TV)))
    refine AI (OL (EI (.take 0 (.take 1 (.take 2 (.take 3 (.take 4 (.take 5 (.take 6 (.take 7 (.take 8 (.alt 9 .done .done)))))))))) (EI [] (EI [] (AI rfl (gI q (fun q=>?_))))))) TV
    refine gI q (fun q=>?_)
    refine AI TV (OL (OL (OL (gI q (fun q=>?_)))))
    refine EI ((i64.wrap (v61 + (1:Int))),(l3 ++ ([z9])),(List.set l5 (Int.toNat v61) (rd (0:Int) a.2 z9))) (AI q (E4 [(0,some 0),(1,some 1),(2,some 2),(3,some 7),(4,some 4),(5,some 5)] (R6 (AI (R4 TV) (R6 TV)))))
   cases sE q
   refine E4 [(0,some 1),(1,some 2),(2,some 3),(3,some 4),(4,some 5)] (AI rfl (AI (R3 TV) (R5 TV)))
  refine AI (OL (OL ?_)) TV
  cases sE q
  refine AI rfl (E4 [(0,some 3),(1,some 4),(2,some 2)] (R2 (AI (R2 TV) (R3 TV))))
 dsimp only [sumF] at q
 refine AI ?_ TV
 cases sE q
 refine AI rfl (E4 [(0,none),(1,none),(2,none)] (R2 (AI (R2 TV) (R3 TV))))
theorem C93_holds : HP C93 93 := hH Tryz.f93 (by kernel_rfl) rfl (fun x y q=>C93_vc x.1 x.2 y q)
theorem f93_in : InP 93 := inP (by kernel_rfl)
def f94_j3 (a : LI×LI) (d : LI) : Option Bool :=
 bindF (f33 (a.1,a.2)) fun r8 =>
 bif (!r8) then
 some true
 else
 bindF (f76 d) fun r9 =>
 some (!r9)
def f94_j2 (a : LI×LI) (d : LI) : Option (Sum Unit Int) :=
 bindF (f94_j3 a d) fun z7 =>
 bif z7 then
 some (Sum.inr (1:Int))
 else
 bindF (f77 d) fun q3_1 =>
 bif (q3_1 != (List.length a.2:Int)) then
 some (Sum.inr (4:Int))
 else
 some (Sum.inl ())
def f94 (a : LI×LI) (d : LI) : Option (Int×LI×LI) :=
 bindF (f94_j2 a d) fun z5 =>
 sumF z5 (fun z5a =>
 bindF (f78 d) fun q5_1 =>
 bindF (f79 a.2) fun q5_4 =>
 some ((0:Int),q5_1,q5_4)) (fun z5b =>
 some (z5b,[],[]))
def C94 : Con where
 X := (LI×LI)×LI
 Y := Int×LI×LI
 e := 0
 args x := [.dat T3 x.1,.dat T1 x.2]
 hin x := []
 F x := f94 x.1 x.2
 ret y := [.raw true [(.osl 0),(.osl 1)],.dat T2 y.1]
 hout y := [(0,.arr 3 T2 y.2.1),(1,.arr 33 T2 y.2.2)]
 nout := 2
theorem C94_vc (a : LI×LI) (d : LI) (y : Int×LI×LI) (q : f94 a d = some y) : VC Tryz.f94 C94 (a,d) y := by
 unfold f94 at q
 refine OL ?_
 obtain ⟨z5,hz5,q⟩ := bE q
 refine OQ ⟨Sum.elim (fun z5a=>[(0,⟨[(1,.dat T1 d),(2,P0 0 0),(4,P0 1 0)],[(0,.cells [(.d T1 a.1),(.d T1 a.2)]),(1,.cells [N0,N0])],2⟩)]) (fun z5b=>[(1,⟨[(4,P0 0 0),(5,.dat T2 z5b)],[(0,.cells [N0,N0])],1⟩)]) z5,?_,?_⟩
 ·have q := hz5
  clear hz5
  unfold f94_j2 at q
  obtain ⟨z7,hz7,q⟩ := bE q
  refine OQ ⟨[(0,⟨[(1,.dat T1 d),(2,P0 0 0),(4,P0 1 0),(6,.dat .bool z7)],[(0,.cells [(.d T1 a.1),(.d T1 a.2)]),(1,.cells [N0,N0])],2⟩)],?_,?_⟩
  ·have q := hz7
   clear hz7
   unfold f94_j3 at q
   obtain ⟨r8,hr8,q⟩ := bE q
   refine OL (AI f33_in (cV (cQ C33 (a.1,a.2) r8 [] false C33_holds hr8 rfl rfl (R2 (K0 (cN q (fun q=>?_) (fun q=>?_)))))))
   ·refine gY ?_
    obtain ⟨r9,hr9,q⟩ := bE q
    refine OL (AI f76_in (cV (cQ C76 d r9 [] false C76_holds hr9 rfl rfl (AI rfl (K0 (gY (cF ?_)))))))
    cases sE q
    refine E4 I2 (R3 (AI (R2 TV) (R2 TV)))
   refine gN (gN (cT ?_))
   cases sE q
   refine E4 I2 (R3 (AI (R2 TV) (R2 TV)))
  refine AI (cI q (fun q=>?_) (fun q=>?_)) TV
  ·refine OL (OL ?_)
   cases sE q
   refine E4 [(0,some 1)] (R2 (AJ (AI rfl TV)))
  refine OL (EI (.take 0 (.take 2 (.take 3 (.take 4 (.alt 1 (.take 5 (.take 6 .done)) .done))))) (EI [] (EI [] (AI rfl (AI TV ?_)))))
  obtain ⟨q3_1,hq3_1,q⟩ := bE q
  refine OL (AI f77_in (cV (cQ C77 d q3_1 [] false C77_holds hq3_1 rfl rfl (AI rfl (K0 (cI q (fun q=>?_) (fun q=>?_)))))))
  ·refine OL (OL ?_)
   cases sE q
   refine E4 [(0,some 1)] (R2 (AJ (AI rfl TV)))
  cases sE q
  refine E4 I2 (R2 (AI (R2 TV) (R2 TV)))
 rcases z5 with z5a | z5b
 ·dsimp only [sumF] at q
  refine AI (OL (EI (.take 0 (.take 2 (.take 3 (.alt 1 (.alt 4 (.take 5 (.alt 6 (.take 7 .done) .done)) .done) .done)))) (EI [] (EI [] (AI rfl (AI TV ?_)))))) TV
  obtain ⟨q5_1,hq5_1,q⟩ := bE q
  refine OL (AI f78_in (cV (cQ C78 d q5_1 [] false C78_holds hq5_1 rfl rfl (AI rfl (K0 (AI TV ?_))))))
  obtain ⟨q5_4,hq5_4,q⟩ := bE q
  refine OL (AI f79_in (cV (cQ C79 a.2 q5_4 [] false C79_holds hq5_4 rfl rfl (AI rfl (K0 (AI TV (OL ?_)))))))
  cases sE q
  refine AI rfl (E4 [(0,some 2),(1,some 3)] (R2 (AJ (R2 TV))))
 dsimp only [sumF] at q
 refine AI ?_ TV
 cases sE q
 refine AI rfl (E4 [(0,none),(1,none)] (R2 (AJ (R2 TV))))
theorem C94_holds : HP C94 94 := hH Tryz.f94 (by kernel_rfl) rfl (fun x y q=>C94_vc x.1 x.2 y q)
theorem f94_in : InP 94 := inP (by kernel_rfl)
def f43 (op:Int) (a : LI×LI) (k:Int) : Option (Int×LI×LI) :=
 bif (op == (5:Int)) then
 bindF (f86 (a.1,a.2) k) fun r1 =>
 some (r1.1,r1.2.1,r1.2.2)
 else
 bif (op == (7:Int)) then
 bindF (f87 (a.1,a.2)) fun r2 =>
 some (r2.1,r2.2.1,r2.2.2)
 else
 bif (op == (8:Int)) then
 bindF (f88 (a.1,a.2) k) fun r3 =>
 some (r3.1,r3.2.1,r3.2.2)
 else
 bif (op == (9:Int)) then
 bindF (f90 (a.1,a.2)) fun r4 =>
 bindF (f89 r4.1 r4.2) fun r5 =>
 some (r5.1,r5.2.1,r5.2.2)
 else
 bif (op == (10:Int)) then
 bindF (f91 (a.1,a.2)) fun r6 =>
 bindF (f89 r6.1 r6.2) fun r7 =>
 some (r7.1,r7.2.1,r7.2.2)
 else
 bif (op == (11:Int)) then
 bindF (f92 k (a.1,a.2)) fun r8 =>
 some (r8.1,r8.2.1,r8.2.2)
 else
 bif (op == (13:Int)) then
 bindF (f93 (a.1,a.2) k) fun r9 =>
 some (r9.1,r9.2.1,r9.2.2.1)
 else
 bindF (f94 (a.1,a.2) ([(List.length a.2:Int)])) fun r10 =>
 some (r10.1,r10.2.1,r10.2.2)
def C43 : Con where
 X := Int×(LI×LI)×Int
 Y := Int×LI×LI
 e := 0
 args x := [.dat T2 x.1,.dat T3 x.2.1,.dat T2 x.2.2]
 hin x := []
 F x := f43 x.1 x.2.1 x.2.2
 ret y := [.raw true [(.osl 0),(.osl 1)],.dat T2 y.1]
 hout y := [(0,.arr 3 T2 y.2.1),(1,.arr 33 T2 y.2.2)]
 nout := 2
theorem C43_vc (op:Int) (a : LI×LI) (k:Int) (y : Int×LI×LI) (q : f43 op a k = some y) : VC Tryz.f43 C43 (op,a,k) y := by
 unfold f43 at q
 refine OL (OL (OL (OL (cI q (fun q=>?_) (fun q=>?_)))))
 ·refine OL ?_
  obtain ⟨r1,hr1,q⟩ := bE q
  refine OL (AI f86_in (cV (cQ C86 ((a.1,a.2),k) r1 [] false C86_holds hr1 rfl rfl (R3 (K0 (OL ?_))))))
  cases sE q
  refine AI rfl (E4 [(0,some 2),(1,some 3)] (R2 (AJ (R2 TV))))
 refine OL (cI q (fun q=>?_) (fun q=>?_))
 ·refine OL ?_
  obtain ⟨r2,hr2,q⟩ := bE q
  refine OL (AI f87_in (cV (cQ C87 (a.1,a.2) r2 [] false C87_holds hr2 rfl rfl (R2 (K0 (OL ?_))))))
  cases sE q
  refine AI rfl (E4 [(0,some 2),(1,some 3)] (R2 (AJ (R2 TV))))
 refine OL (cI q (fun q=>?_) (fun q=>?_))
 ·refine OL ?_
  obtain ⟨r3,hr3,q⟩ := bE q
  refine OL (AI f88_in (cV (cQ C88 ((a.1,a.2),k) r3 [] false C88_holds hr3 rfl rfl (R3 (K0 (OL ?_))))))
  cases sE q
  refine AI rfl (E4 [(0,some 2),(1,some 3)] (R2 (AJ (R2 TV))))
 refine OL (cI q (fun q=>?_) (fun q=>?_))
 ·refine OL ?_
  obtain ⟨r4,hr4,q⟩ := bE q
  refine OL (AI f90_in (cV (cQ C90 (a.1,a.2) r4 [] false C90_holds hr4 rfl rfl (R2 (K0 ?_)))))
  obtain ⟨r5,hr5,q⟩ := bE q
  refine OL (AI f89_in (cV (cQ C89 (r4.1,r4.2) r5 [] false C89_holds hr5 rfl rfl (R2 (K0 (OL ?_))))))
  cases sE q
  refine AI rfl (E4 [(0,some 2),(1,some 3)] (R2 (AJ (R2 TV))))
 refine OL (cI q (fun q=>?_) (fun q=>?_))
 ·refine OL ?_
  obtain ⟨r6,hr6,q⟩ := bE q
  refine OL (AI f91_in (cV (cQ C91 (a.1,a.2) r6 [] false C91_holds hr6 rfl rfl (R2 (K0 ?_)))))
  obtain ⟨r7,hr7,q⟩ := bE q
  refine OL (AI f89_in (cV (cQ C89 (r6.1,r6.2) r7 [] false C89_holds hr7 rfl rfl (R2 (K0 (OL ?_))))))
  cases sE q
  refine AI rfl (E4 [(0,some 2),(1,some 3)] (R2 (AJ (R2 TV))))
 refine OL (cI q (fun q=>?_) (fun q=>?_))
 ·refine OL ?_
  obtain ⟨r8,hr8,q⟩ := bE q
  refine OL (AI f92_in (cV (cQ C92 (k,(a.1,a.2)) r8 [] false C92_holds hr8 rfl rfl (R3 (K0 (OL ?_))))))
  cases sE q
  refine AI rfl (E4 [(0,some 2),(1,some 3)] (R2 (AJ (R2 TV))))
 refine OL (cI q (fun q=>?_) (fun q=>?_))
 ·refine OL ?_
  obtain ⟨r9,hr9,q⟩ := bE q
  refine OL (AI f93_in (cV (cQ C93 ((a.1,a.2),k) r9 [] false C93_holds hr9 rfl rfl (R3 (K0 (OL (OL (OL ?_))))))))
  cases sE q
  refine AI rfl (E4 [(0,some 2),(1,some 3)] (R2 (AJ (R2 TV))))
 refine OL (OL ?_)
 obtain ⟨r10,hr10,q⟩ := bE q
 refine OL (AI f94_in (cV (cQ C94 ((a.1,a.2),[(List.length a.2:Int)]) r10 [] true C94_holds hr10 rfl rfl (R3 (AI (fun _=>rfl) (R2 (AI TV (AI TV (OL ?_)))))))))
 cases sE q
 refine AI rfl (E4 [(0,some 3),(1,some 4)] (R2 (AJ (R2 TV))))
theorem C43_holds : HP C43 43 := hH Tryz.f43 (by kernel_rfl) rfl (fun x y q=>C43_vc x.1 x.2.1 x.2.2 y q)
theorem f43_in : InP 43 := inP (by kernel_rfl)
def f17_j1 (t_l : NL) (op:Int) (a:Int) (b:Int) : Option (Sum NL (Int×NL)) :=
 bif (decide ((List.length t_l:Int) ≥ (512:Int))) then
 some (Sum.inr ((2:Int),t_l))
 else
 bif (decide (op < (2:Int))) then
 some (Sum.inr ((1:Int),t_l))
 else
 bif (decide (op > (14:Int))) then
 some (Sum.inr ((1:Int),t_l))
 else
 bindF (f39 t_l a) fun r5 =>
 bif (!r5.1) then
 some (Sum.inr ((1:Int),r5.2))
 else
 bindF (f40 op) fun r6 =>
 bif r6 then
 bindF (f39 r5.2 b) fun r7 =>
 bif (!r7.1) then
 some (Sum.inr ((1:Int),r7.2))
 else
 some (Sum.inl r7.2)
 else
 some (Sum.inl r5.2)
def f17_j2 (op:Int) (k:Int) : Option Int :=
 bindF (f41 op) fun r10 =>
 bif r10 then
 some k
 else
 some (0:Int)
def f17_j3 (op:Int) (a:Int) (b:Int) (k:Int) (z4a : NL) : Option (Int×Int×LI×LI) :=
 bindF (f40 op) fun r13 =>
 bif r13 then
 guardF (0 ≤ a ∧ a < (List.length z4a:Int)) <|
 guardF (0 ≤ b ∧ b < (List.length z4a:Int)) <|
 bindF (f42 op ((((((rd (Ty.z T0) z4a a).2).2).2).2).1,(((((rd (Ty.z T0) z4a a).2).2).2).2).2) ((((((rd (Ty.z T0) z4a b).2).2).2).2).1,(((((rd (Ty.z T0) z4a b).2).2).2).2).2) k) fun q11_18 =>
 some (q11_18.1,b,q11_18.2.1,q11_18.2.2)
 else
 guardF (0 ≤ a ∧ a < (List.length z4a:Int)) <|
 bindF (f43 op ((((((rd (Ty.z T0) z4a a).2).2).2).2).1,(((((rd (Ty.z T0) z4a a).2).2).2).2).2) k) fun q11_24 =>
 some (q11_24.1,(-1:Int),q11_24.2.1,q11_24.2.2)
def f17 (t_l : NL) (op:Int) (a:Int) (b:Int) (k:Int) : Option (Int×Int×NL) :=
 bindF (f17_j1 t_l op a b) fun z4 =>
 sumF z4 (fun z4a =>
 bindF (f17_j2 op k) fun z9 =>
 bindF (f17_j3 op a b k z4a) fun z12 =>
 bif (z12.1 != (0:Int)) then
 some ((0:Int),z12.1,z4a)
 else
 bindF (f34 z4a (op,a,z12.2.1,z9,z12.2.2.1,z12.2.2.2)) fun r14 =>
 some (r14.1,(0:Int),r14.2)) (fun z4b =>
 some ((0:Int),z4b.1,z4b.2))
def C17 : Con where
 X := NL×Int×Int×Int×Int
 Y := Int×Int×NL
 e := 2
 args x := [P0 0 0,.dat T2 x.2.1,.dat T2 x.2.2.1,.dat T2 x.2.2.2.1,.dat T2 x.2.2.2.2]
 hin x := [(0,.cells [(.osl 1)]),(1,.arr 74 T0 x.1)]
 F x := f17 x.1 x.2.1 x.2.2.1 x.2.2.2.1 x.2.2.2.2
 ret y := [.dat T2 y.1,.dat T2 y.2.1]
 hout y := [(0,.cells [(.osl 2)]),(2,.arr 74 T0 y.2.2)]
 nout := 3
theorem C17_vc (t_l : NL) (op:Int) (a:Int) (b:Int) (k:Int) (y : Int×Int×NL) (q : f17 t_l op a b k = some y) : VE Tryz.f17 2 C17 (t_l,op,a,b,k) y := by
 unfold f17 at q
 refine OL ?_
 obtain ⟨z4,hz4,q⟩ := bE q
 refine OQ ⟨Sum.elim (fun z4a=>[(0,⟨[(0,P0 0 0),(1,.dat T2 op),(2,.dat T2 a),(3,.dat T2 b),(4,.dat T2 k)],[(0,.cells [(.osl 1)]),(1,.arr 74 T0 z4a)],2⟩)]) (fun z4b=>[(1,⟨[(10,D0 0),(11,.dat T2 z4b.1)],[(0,.cells [(.osl 1)]),(1,.arr 74 T0 z4b.2)],2⟩)]) z4,?_,?_⟩
 ·have q := hz4
  clear hz4
  unfold f17_j1 at q
  refine OL (cI q (fun q=>?_) (fun q=>?_))
  ·cases sE q
   refine OL (E4 I2 (R3 (AI TV (R2 TV))))
  refine OL (cN q (fun q=>?_) (fun q=>?_))
  ·refine gY (cF (cN q (fun q=>?_) (fun q=>?_)))
   ·refine gY (gY ?_)
    obtain ⟨r5,hr5,q⟩ := bE q
    refine OL (AI f39_in (cV (cQ C39 (t_l,a) r5 I2 false C39_holds hr5 rfl rfl (AI rfl (AI NH (R2 (AJ (AI (R2 TV) (gY (cF (cN q (fun q=>?_) (fun q=>?_))))))))))))
    ·refine gY ?_
     obtain ⟨r6,hr6,q⟩ := bE q
     refine OL (AI f40_in (cV (cQ C40 op r6 [] false C40_holds hr6 rfl rfl (AI rfl (K0 (gY (cI q (fun q=>?_) (fun q=>?_))))))))
     ·refine gX (gX ?_)
      obtain ⟨r7,hr7,q⟩ := bE q
      refine OL (AI f39_in (cV (cQ C39 (r5.2,b) r7 I2 false C39_holds hr7 rfl rfl (AI rfl (AI NH (R2 (AJ (AI (R2 TV) (gX (gY (cT (cF (cI q (fun q=>?_) (fun q=>?_))))))))))))))
      ·cases sE q
       refine OL (E4 I2 (R3 (AI TV (R2 TV))))
      cases sE q
      refine E4 I2 (R5 (AJ (R2 TV)))
     refine gM (gM (gM (gY (cF (cF (cF ?_))))))
     cases sE q
     refine E4 I2 (R5 (AJ (R2 TV)))
    refine gN (gN (gN (cT (cT (OL ?_)))))
    cases sE q
    refine E4 I2 (R3 (AI TV (R2 TV)))
   refine gN (gN (gN (cT (gN (gN (gN (gN (cT (cT (OL ?_))))))))))
   cases sE q
   refine E4 I2 (R3 (AI TV (R2 TV)))
  refine gN (cT (gN (gN (gN (gN (cT (gN (gN (gN (gN (cT (cT (OL ?_)))))))))))))
  cases sE q
  refine E4 I2 (R3 (AI TV (R2 TV)))
 rcases z4 with z4a | z4b
 ·dsimp only [sumF] at q
  refine AI (OL (OL ?_)) TV
  obtain ⟨z9,hz9,q⟩ := bE q
  refine OQ ⟨[(0,⟨[(0,P0 0 0),(1,.dat T2 op),(2,.dat T2 a),(3,.dat T2 b),(4,.dat T2 k),(12,P0 2 0)],[(0,.cells [(.osl 1)]),(1,.arr 74 T0 z4a),(2,.cells [(.d T2 op),(.d T2 a),(.d T2 (-1:Int)),(.d T2 z9),N0,N0])],3⟩)],?_,?_⟩
  ·have q := hz9
   clear hz9
   unfold f17_j2 at q
   refine OL ?_
   obtain ⟨r10,hr10,q⟩ := bE q
   refine OL (AI f41_in (cV (cQ C41 op r10 [] false C41_holds hr10 rfl rfl (AI rfl (K0 (cI q (fun q=>?_) (fun q=>?_)))))))
   ·cases sE q
    refine OL (E4 I3 (R5 (AI (R2 TV) (R3 TV))))
   cases sE q
   refine E4 I3 (R5 (AI (R2 TV) (R3 TV)))
  refine AI (OL ?_) TV
  obtain ⟨z12,hz12,q⟩ := bE q
  refine OQ ⟨[(0,⟨[(0,P0 0 0),(12,P0 2 0),(13,.dat T2 z12.1)],[(0,.cells [(.osl 1)]),(1,.arr 74 T0 z4a),(2,.cells [(.d T2 op),(.d T2 a),(.d T2 z12.2.1),(.d T2 z9),(.osl 3),(.osl 4)]),(3,.arr 3 T2 z12.2.2.1),(4,.arr 33 T2 z12.2.2.2)],5⟩)],?_,?_⟩
  ·have q := hz12
   clear hz12
   unfold f17_j3 at q
   refine OL ?_
   obtain ⟨r13,hr13,q⟩ := bE q
   refine OL (AI f40_in (cV (cQ C40 op r13 [] false C40_holds hr13 rfl rfl (AI rfl (K0 (cI q (fun q=>?_) (fun q=>?_)))))))
   ·refine OL (OL (EI (.take 0 (.take 1 (.take 2 (.take 3 (.take 4 (.take 5 (.take 6 (.take 7 (.take 8 (.take 9 (.take 10 (.take 11 (.take 12 (.take 13 (.take 14 (.take 15 (.take 16 (.take 17 (.alt 18 (.take 19 (.take 20 (.take 21 (.take 22 (.alt 23 (.take 24 .done) .done))))) .done))))))))))))))))))) (EI [] (EI [] (AI rfl (gI q (fun q=>?_)))))))
    refine gI q (fun q=>?_)
    refine AI TV ?_
    obtain ⟨q11_18,hq11_18,q⟩ := bE q
    refine OL (AI f42_in (cV (cQ C42 (op,((((((rd (Ty.z T0) z4a a).2).2).2).2).1,(((((rd (Ty.z T0) z4a a).2).2).2).2).2),((((((rd (Ty.z T0) z4a b).2).2).2).2).1,(((((rd (Ty.z T0) z4a b).2).2).2).2).2),k) q11_18 [] false C42_holds hq11_18 rfl rfl (R6 (K0 (AI TV (OL ?_)))))))
    cases sE q
    refine E4 I5 (R2 (AI (R2 TV) (R5 TV)))
   refine gI q (fun q=>?_)
   obtain ⟨q11_24,hq11_24,q⟩ := bE q
   refine OL (AI f43_in (cV (cQ C43 (op,((((((rd (Ty.z T0) z4a a).2).2).2).2).1,(((((rd (Ty.z T0) z4a a).2).2).2).2).2),k) q11_24 [] false C43_holds hq11_24 rfl rfl (R4 (K0 (OL ?_))))))
   cases sE q
   refine E4 I5 (R2 (AI (R2 TV) (R5 TV)))
  refine AI (OL (OL (cI q (fun q=>?_) (fun q=>?_)))) TV
  ·cases sE q
   refine OL (AI rfl (E4 [(0,some 0),(2,some 1)] (R3 (AI TV (R2 TV)))))
  refine OL ?_
  obtain ⟨r14,hr14,q⟩ := bE q
  refine OL (AI f34_in (cV (cQ C34 (z4a,(op,a,z12.2.1,z9,z12.2.2.1,z12.2.2.2)) r14 I2 false C34_holds hr14 rfl rfl (R2 (AI NH (R2 (AJ (AI (R2 TV) ?_))))))))
  cases sE q
  refine AI rfl (E4 [(0,some 0),(2,some 7)] (R3 (AI TV (R2 TV))))
 dsimp only [sumF] at q
 refine AI ?_ TV
 cases sE q
 refine AI rfl (E4 [(0,some 0),(2,some 1)] (R3 (AI TV (R2 TV))))
theorem C17_holds : HP C17 17 := hH Tryz.f17 (by kernel_rfl) rfl (fun x y q=>C17_vc x.1 x.2.1 x.2.2.1 x.2.2.2.1 x.2.2.2.2 y q)
theorem f17_in : InP 17 := inP (by kernel_rfl)
def f37 (t_l : NL) (n:Int) : Option (Int×Int×Int×Int×Bool×LI×LI×NL) :=
 bindF (f39 t_l n) fun r1 =>
 bif (!r1.1) then
 some ((0:Int),(0:Int),(0:Int),(0:Int),false,[],[],r1.2)
 else
 guardF (0 ≤ n ∧ n < (List.length r1.2:Int)) <|
 bindF (f35 ((((((rd (Ty.z T0) r1.2 n).2).2).2).2).1,(((((rd (Ty.z T0) r1.2 n).2).2).2).2).2)) fun r2 =>
 some ((rd (Ty.z T0) r1.2 n).1,((rd (Ty.z T0) r1.2 n).2).1,(((rd (Ty.z T0) r1.2 n).2).2).1,((((rd (Ty.z T0) r1.2 n).2).2).2).1,true,r2.1,r2.2,r1.2)
def C37 : Con where
 X := NL×Int
 Y := Int×Int×Int×Int×Bool×LI×LI×NL
 e := 2
 args x := [P0 0 0,.dat T2 x.2]
 hin x := [(0,.cells [(.osl 1)]),(1,.arr 74 T0 x.1)]
 F x := f37 x.1 x.2
 ret y := [.raw true [(.d T2 y.1),(.d T2 y.2.1),(.d T2 y.2.2.1),(.d T2 y.2.2.2.1),(.osl 2),(.osl 3)],.dat .bool y.2.2.2.2.1]
 hout y := [(0,.cells [(.osl 1)]),(1,.arr 74 T0 y.2.2.2.2.2.2.2),(2,.arr 3 T2 y.2.2.2.2.2.1),(3,.arr 33 T2 y.2.2.2.2.2.2.1)]
 nout := 4
theorem C37_vc (t_l : NL) (n:Int) (y : Int×Int×Int×Int×Bool×LI×LI×NL) (q : f37 t_l n = some y) : VE Tryz.f37 2 C37 (t_l,n) y := by
 unfold f37 at q
 refine OL (OL (OL ?_))
 obtain ⟨r1,hr1,q⟩ := bE q
 refine OL (AI f39_in (cV (cQ C39 (t_l,n) r1 I2 false C39_holds hr1 rfl rfl (AI rfl (AI NH (R2 (AJ (AI (R2 TV) (cI q (fun q=>?_) (fun q=>?_))))))))))
 ·refine OL (OL ?_)
  cases sE q
  refine AI rfl (E4 [(0,some 0),(1,some 1),(2,none),(3,none)] (R2 (AJ (R4 TV))))
 refine OL (gI q (fun q=>?_))
 refine OL (OL ?_)
 obtain ⟨r2,hr2,q⟩ := bE q
 refine OL (AI f35_in (cV (cQ C35 ((((((rd (Ty.z T0) r1.2 n).2).2).2).2).1,(((((rd (Ty.z T0) r1.2 n).2).2).2).2).2) r2 [] false C35_holds hr2 rfl rfl (R2 (K0 (OL (OL (OL ?_))))))))
 cases sE q
 refine AI rfl (E4 [(0,some 0),(1,some 1),(2,some 6),(3,some 7)] (R2 (AJ (R4 TV))))
theorem C37_holds : HP C37 37 := hH Tryz.f37 (by kernel_rfl) rfl (fun x y q=>C37_vc x.1 x.2 y q)
theorem f37_in : InP 37 := inP (by kernel_rfl)
def f26 (t_l : NL) (n:Int) : Option (Bool×LI×LI×NL) :=
 bindF (f37 t_l n) fun r1 =>
 some (r1.2.2.2.2.1,r1.2.2.2.2.2.1,r1.2.2.2.2.2.2.1,r1.2.2.2.2.2.2.2)
def C26 : Con where
 X := NL×Int
 Y := Bool×LI×LI×NL
 e := 2
 args x := [P0 0 0,.dat T2 x.2]
 hin x := [(0,.cells [(.osl 1)]),(1,.arr 74 T0 x.1)]
 F x := f26 x.1 x.2
 ret y := [.raw true [(.osl 2),(.osl 3)],.dat .bool y.1]
 hout y := [(0,.cells [(.osl 1)]),(1,.arr 74 T0 y.2.2.2),(2,.arr 3 T2 y.2.1),(3,.arr 33 T2 y.2.2.1)]
 nout := 4
theorem C26_vc (t_l : NL) (n:Int) (y : Bool×LI×LI×NL) (q : f26 t_l n = some y) : VE Tryz.f26 2 C26 (t_l,n) y := by
 unfold f26 at q
 refine OL (OL ?_)
 obtain ⟨r1,hr1,q⟩ := bE q
 refine OL (AI f37_in (cV (cQ C37 (t_l,n) r1 I2 false C37_holds hr1 rfl rfl (AI rfl (AI NH (R2 (AJ (AI (R2 TV) (OL (OL (OL ?_)))))))))))
 cases sE q
 refine AI rfl (E4 [(0,some 0),(1,some 1),(2,some 5),(3,some 6)] (R2 (AJ (R4 TV))))
theorem C26_holds : HP C26 26 := hH Tryz.f26 (by kernel_rfl) rfl (fun x y q=>C26_vc x.1 x.2 y q)
theorem f26_in : InP 26 := inP (by kernel_rfl)
def f95_l1 (s1 : LI) (s2 : LI) (go : Int → Option (Sum Unit Unit)) (v13:Int) : Option (Sum Unit Unit) :=
 bif (decide (v13 < (List.length s1:Int))) then
 guardF (0 ≤ v13 ∧ v13 < (List.length s1:Int)) <|
 guardF (0 ≤ v13 ∧ v13 < (List.length s2:Int)) <|
 bif ((rd (0:Int) s1 v13) != (rd (0:Int) s2 v13)) then
 some (Sum.inl ())
 else
 go (i64.wrap (v13 + (1:Int)))
 else
 some (Sum.inr ())
def f95 (s1 : LI) (s2 : LI) : Option Bool :=
 bif ((List.length s1:Int) != (List.length s2:Int)) then
 some false
 else
 bindF (loopF (fun go x=>f95_l1 s1 s2 go x) fuelN (0:Int)) fun z1 =>
 sumF z1 (fun z1a =>
 some false) (fun z1b =>
 some true)
def C95 : Con where
 X := LI×LI
 Y := Bool
 e := 0
 args x := [.dat T1 x.1,.dat T1 x.2]
 hin x := []
 F x := f95 x.1 x.2
 ret y := [.dat .bool y]
 hout y := []
 nout := 0
theorem C95_vc (s1 : LI) (s2 : LI) (y : Bool) (q : f95 s1 s2 = some y) : VC Tryz.f95 C95 (s1,s2) y := by
 unfold f95 at q
 refine OL (OL (OL (cI q (fun q=>?_) (fun q=>?_))))
 ·cases sE q
  refine OL (AI rfl (E4 [] (R2 (AI TV TV))))
 refine OL (OL ?_)
 obtain ⟨z1,hz1,q⟩ := bE q
 refine lI Int (Sum Unit Unit) (fun x=>⟨[(0,.dat T1 s1),(1,.dat T1 s2),(12,.dat T2 (List.length s1:Int)),(13,.dat T2 x)],[],0⟩) (fun z=>Sum.elim (fun za=>[(1,⟨[(4,.dat .bool false)],[],0⟩)]) (fun zb=>[(2,⟨[],[],0⟩)]) z) (loopF (fun go x=>f95_l1 s1 s2 go x)) fuelN (0:Int) z1 (AI hz1 (AI (E4 [] (R5 (AI TV TV))) (AI (fun _ _ h=>lZ h) (AI (fun m=>fun v13 z q=>?_) ?_))))
 ·have q : f95_l1 s1 s2 (loopF (fun go x=>f95_l1 s1 s2 go x) m) v13 = some z := q
  unfold f95_l1 at q
  refine OL (OL (cI q (fun q=>?_) (fun q=>?_)))
  ·refine OL (OL (OL (EI (.take 0 (.take 1 (.take 2 (.take 3 (.take 4 (.take 5 (.take 6 (.take 7 (.take 8 .done))))))))) (EI [] (EI [] (AI rfl (gI q (fun q=>?_))))))))
   refine gI q (fun q=>?_)
   refine cI q (fun q=>?_) (fun q=>?_)
   ·cases sE q
    refine OL (E4 [] (R2 (AI TV TV)))
   refine EI (i64.wrap (v13 + (1:Int))) (AI q (E4 [] (R5 (AI TV TV))))
  cases sE q
  refine E4 [] (AI rfl (AI TV TV))
 rcases z1 with z1a | z1b
 ·dsimp only [sumF] at q
  refine AI ?_ TV
  cases sE q
  refine AI rfl (E4 [] (R2 (AI TV TV)))
 dsimp only [sumF] at q
 refine AI (OL ?_) TV
 cases sE q
 refine AI rfl (E4 [] (R2 (AI TV TV)))
theorem C95_holds : HP C95 95 := hH Tryz.f95 (by kernel_rfl) rfl (fun x y q=>C95_vc x.1 x.2 y q)
theorem f95_in : InP 95 := inP (by kernel_rfl)
def f44 (a : LI) (b : LI) : Option Bool :=
 bindF (f95 a b) fun r1 =>
 some r1
def C44 : Con where
 X := LI×LI
 Y := Bool
 e := 0
 args x := [.dat T1 x.1,.dat T1 x.2]
 hin x := []
 F x := f44 x.1 x.2
 ret y := [.dat .bool y]
 hout y := []
 nout := 0
theorem C44_vc (a : LI) (b : LI) (y : Bool) (q : f44 a b = some y) : VC Tryz.f44 C44 (a,b) y := by
 unfold f44 at q
 refine OL (OL ?_)
 obtain ⟨r1,hr1,q⟩ := bE q
 refine OL (AI f95_in (cV (cQ C95 (a,b) r1 [] false C95_holds hr1 rfl rfl (R2 (K0 ?_)))))
 cases sE q
 refine AI rfl (E4 [] (R2 (AI TV TV)))
theorem C44_holds : HP C44 44 := hH Tryz.f44 (by kernel_rfl) rfl (fun x y q=>C44_vc x.1 x.2 y q)
theorem f44_in : InP 44 := inP (by kernel_rfl)
def f96_j3 (a : LI×LI) (d : LI) : Option Bool :=
 bindF (f33 (a.1,a.2)) fun r9 =>
 bif (!r9) then
 some true
 else
 bindF (f76 d) fun r10 =>
 some (!r10)
def f96_j2 (a : LI×LI) (d : LI) : Option (Sum Unit Unit) :=
 bindF (f96_j3 a d) fun z8 =>
 bif z8 then
 some (Sum.inr ())
 else
 some (Sum.inl ())
def f96_j6 (a : LI×LI) (r11 : Int×LI) : Option Bool :=
 bif (r11.1 != (0:Int)) then
 some true
 else
 bindF (f44 r11.2 a.1) fun r18 =>
 some (!r18)
def f96_j5 (a : LI×LI) (r11 : Int×LI) : Option (Sum Unit Unit) :=
 bindF (f96_j6 a r11) fun z17 =>
 bif z17 then
 some (Sum.inr ())
 else
 some (Sum.inl ())
def f96_l7 (a : LI×LI) (r20 : LI) (go : (Int×LI) → Option LI) (v51:Int) (l4 : LI) : Option LI :=
 bif (decide (v51 < (List.length a.2:Int))) then
 guardF (0 ≤ v51 ∧ v51 < (List.length a.2:Int)) <|
 guardF (0 ≤ v51 ∧ v51 < (List.length r20:Int)) <|
 guardF (0 ≤ v51 ∧ v51 < (List.length r20:Int)) <|
 guardF (0 ≤ (rd (0:Int) r20 v51) ∧ (rd (0:Int) r20 v51) < (List.length l4:Int)) <|
 bindF (f125 (rd (0:Int) l4 (rd (0:Int) r20 v51)) (rd (0:Int) a.2 v51)) fun q11_15 =>
 guardF (0 ≤ (rd (0:Int) r20 v51) ∧ (rd (0:Int) r20 v51) < (List.length l4:Int)) <|
 go ((i64.wrap (v51 + (1:Int))),(List.set l4 (Int.toNat (rd (0:Int) r20 v51)) q11_15))
 else
 some l4
def f96 (a : LI×LI) (d : LI) : Option (Int×LI×LI) :=
 bindF (f96_j2 a d) fun z5 =>
 sumF z5 (fun z5a =>
 bindF (f142 d a.1) fun r11 =>
 bindF (f96_j5 a r11) fun z15 =>
 sumF z15 (fun z15a =>
 bindF (f36 d (0:Int)) fun r19 =>
 bindF (f143 d a.1) fun r20 =>
 bindF (loopF (fun go x=>f96_l7 a r20 go x.1 x.2) fuelN ((0:Int),r19.2.2)) fun z21 =>
 some ((0:Int),r19.2.1,z21)) (fun z15b =>
 some ((4:Int),[],[]))) (fun z5b =>
 some ((1:Int),[],[]))
def C96 : Con where
 X := (LI×LI)×LI
 Y := Int×LI×LI
 e := 0
 args x := [.dat T3 x.1,.dat T1 x.2]
 hin x := []
 F x := f96 x.1 x.2
 ret y := [.raw true [(.osl 0),(.osl 1)],.dat T2 y.1]
 hout y := [(0,.arr 3 T2 y.2.1),(1,.arr 33 T2 y.2.2)]
 nout := 2
theorem C96_vc (a : LI×LI) (d : LI) (y : Int×LI×LI) (q : f96 a d = some y) : VC Tryz.f96 C96 (a,d) y := by
 unfold f96 at q
 refine OL ?_
 obtain ⟨z5,hz5,q⟩ := bE q
 refine OQ ⟨Sum.elim (fun z5a=>[(0,⟨[(1,.dat T1 d),(2,P0 0 0),(4,P0 1 0)],[(0,.cells [(.d T1 a.1),(.d T1 a.2)]),(1,.cells [N0,N0])],2⟩)]) (fun z5b=>[(1,⟨[(4,P0 0 0),(5,D0 1)],[(0,.cells [N0,N0])],1⟩)]) z5,?_,?_⟩
 ·have q := hz5
  clear hz5
  unfold f96_j2 at q
  obtain ⟨z8,hz8,q⟩ := bE q
  refine OQ ⟨[(0,⟨[(1,.dat T1 d),(2,P0 0 0),(4,P0 1 0),(20,.dat .bool z8)],[(0,.cells [(.d T1 a.1),(.d T1 a.2)]),(1,.cells [N0,N0])],2⟩)],?_,?_⟩
  ·have q := hz8
   clear hz8
   unfold f96_j3 at q
   obtain ⟨r9,hr9,q⟩ := bE q
   refine OL (AI f33_in (cV (cQ C33 (a.1,a.2) r9 [] false C33_holds hr9 rfl rfl (R2 (K0 (cN q (fun q=>?_) (fun q=>?_)))))))
   ·refine gY ?_
    obtain ⟨r10,hr10,q⟩ := bE q
    refine OL (AI f76_in (cV (cQ C76 d r10 [] false C76_holds hr10 rfl rfl (AI rfl (K0 (gY (cF ?_)))))))
    cases sE q
    refine E4 I2 (R3 (AI (R2 TV) (R2 TV)))
   refine gN (gN (cT ?_))
   cases sE q
   refine E4 I2 (R3 (AI (R2 TV) (R2 TV)))
  refine AI (cI q (fun q=>?_) (fun q=>?_)) TV
  ·refine OL (OL ?_)
   cases sE q
   refine E4 [(0,some 1)] (R2 (AJ (AI rfl TV)))
  cases sE q
  refine E4 I2 (R2 (AI (R2 TV) (R2 TV)))
 rcases z5 with z5a | z5b
 ·dsimp only [sumF] at q
  refine AI (OL ?_) TV
  obtain ⟨r11,hr11,q⟩ := bE q
  refine OL (AI f142_in (cV (cQ C142 (d,a.1) r11 [] false C142_holds hr11 rfl rfl (R2 (K0 ?_)))))
  obtain ⟨z15,hz15,q⟩ := bE q
  refine OQ ⟨Sum.elim (fun z15a=>[(0,⟨[(1,.dat T1 d),(2,P0 0 0),(4,P0 1 0)],[(0,.cells [(.d T1 a.1),(.d T1 a.2)]),(1,.cells [N0,N0])],2⟩)]) (fun z15b=>[(1,⟨[(4,P0 0 0),(5,D0 4)],[(0,.cells [N0,N0])],1⟩)]) z15,?_,?_⟩
  ·have q := hz15
   clear hz15
   unfold f96_j5 at q
   obtain ⟨z17,hz17,q⟩ := bE q
   refine OQ ⟨[(0,⟨[(1,.dat T1 d),(2,P0 0 0),(4,P0 1 0),(37,.dat .bool z17)],[(0,.cells [(.d T1 a.1),(.d T1 a.2)]),(1,.cells [N0,N0])],2⟩)],?_,?_⟩
   ·have q := hz17
    clear hz17
    unfold f96_j6 at q
    refine cN q (fun q=>?_) (fun q=>?_)
    ·refine gY (gY (gY ?_))
     obtain ⟨r18,hr18,q⟩ := bE q
     refine OL (AI f44_in (cV (cQ C44 (r11.2,a.1) r18 [] true C44_holds hr18 rfl rfl (R2 (AI (fun _=>rfl) (R2 (AI TV (AI TV (gY (cF ?_))))))))))
     cases sE q
     refine E4 I2 (R3 (AI (R2 TV) (R2 TV)))
    refine gN (gN (gN (gN (cT ?_))))
    cases sE q
    refine E4 I2 (R3 (AI (R2 TV) (R2 TV)))
   refine AI (cI q (fun q=>?_) (fun q=>?_)) TV
   ·refine OL (OL ?_)
    cases sE q
    refine E4 [(0,some 1)] (R2 (AJ (AI rfl TV)))
   cases sE q
   refine E4 I2 (R2 (AI (R2 TV) (R2 TV)))
  rcases z15 with z15a | z15b
  ·dsimp only [sumF] at q
   refine AI (OL ?_) TV
   obtain ⟨r19,hr19,q⟩ := bE q
   refine OL (AI f36_in (cV (cQ C36 (d,(0:Int)) r19 [] false C36_holds hr19 rfl rfl (R2 (K0 (OL (OL ?_)))))))
   obtain ⟨r20,hr20,q⟩ := bE q
   refine OL (AI f143_in (cV (cQ C143 (d,a.1) r20 [] false C143_holds hr20 rfl rfl (R2 (K0 (OL (OL ?_)))))))
   obtain ⟨z21,hz21,q⟩ := bE q
   refine lI (Int×LI) LI (fun x=>⟨[(4,P0 0 0),(8,P0 1 0),(10,O0 2),(49,.dat T1 a.2),(50,.dat T2 (List.length a.2:Int)),(51,.dat T2 x.1)],[(0,.cells [N0,N0]),(1,.cells [(.osl 3),(.osl 4)]),(2,.arr 3 T2 r20),(3,.arr 3 T2 r19.2.1),(4,.arr 33 T2 x.2)],5⟩) (fun z=>[(2,⟨[(4,P0 0 0),(8,P0 1 0)],[(0,.cells [N0,N0]),(1,.cells [(.osl 2),(.osl 3)]),(2,.arr 3 T2 r19.2.1),(3,.arr 33 T2 z)],4⟩)]) (loopF (fun go x=>f96_l7 a r20 go x.1 x.2)) fuelN ((0:Int),r19.2.2) z21 (AI hz21 (AI (E4 [(0,some 1),(1,some 4),(2,some 5),(3,some 2),(4,some 3)] (R4 (AI (R3 TV) (R5 TV)))) (AI (fun _ _ h=>lZ h) (AI (fun m=>curI (fun v51=>fun l4 z q=>?_)) ?_))))
   ·have q : f96_l7 a r20 (loopF (fun go x=>f96_l7 a r20 go x.1 x.2) m) v51 l4 = some z := q
    unfold f96_l7 at q
    refine OL (OL (cI q (fun q=>?_) (fun q=>?_)))
    ·refine OL (OL (gI q (fun q=>?_)))
     refine EI (.take 0 (.take 1 (.take 2 (.take 3 (.take 4 (.take 5 (.take 6 (.take 7 (.take 8 (.take 9 (.take 10 (.take 11 (.take 12 (.take 13 (.take 14 (.alt 15 (.take 16 (.alt 17 .done .done)) .done)))))))))))))))) (EI [(17,[4])] (EI [] (AI rfl (gI q (fun q=>?_)))))
     refine gI q (fun q=>?_)
     refine gI q (fun q=>?_)
     refine AI TV ?_
     obtain ⟨q11_15,hq11_15,q⟩ := bE q
     refine OL (AI f125_in (cV (cQ C125 ((rd (0:Int) l4 (rd (0:Int) r20 v51)),(rd (0:Int) a.2 v51)) q11_15 [] false C125_holds hq11_15 rfl rfl (R2 (K0 (gI q (fun q=>?_)))))))
     refine AI TV (OL (EI ((i64.wrap (v51 + (1:Int))),(List.set l4 (Int.toNat (rd (0:Int) r20 v51)) q11_15)) (AI q (E4 I5 (R4 (AI (R3 TV) (R5 TV)))))))
    cases sE q
    refine E4 [(0,some 0),(1,some 1),(2,some 3),(3,some 4)] (AI rfl (AI (R2 TV) (R4 TV)))
   refine AI (OL (OL ?_)) TV
   cases sE q
   refine AI rfl (E4 [(0,some 2),(1,some 3)] (R2 (AJ (R2 TV))))
  dsimp only [sumF] at q
  refine AI ?_ TV
  cases sE q
  refine AI rfl (E4 [(0,none),(1,none)] (R2 (AJ (R2 TV))))
 dsimp only [sumF] at q
 refine AI ?_ TV
 cases sE q
 refine AI rfl (E4 [(0,none),(1,none)] (R2 (AJ (R2 TV))))
theorem C96_holds : HP C96 96 := hH Tryz.f96 (by kernel_rfl) rfl (fun x y q=>C96_vc x.1 x.2 y q)
theorem f96_in : InP 96 := inP (by kernel_rfl)
def f97 (t : LI×LI) (e:Int) (d : LI) : Option (Int×LI×LI) :=
 bif (e != (0:Int)) then
 some (e,[],[])
 else
 bindF (f96 (t.1,t.2) d) fun r1 =>
 some (r1.1,r1.2.1,r1.2.2)
def C97 : Con where
 X := (LI×LI)×Int×LI
 Y := Int×LI×LI
 e := 0
 args x := [.dat T3 x.1,.dat T2 x.2.1,.dat T1 x.2.2]
 hin x := []
 F x := f97 x.1 x.2.1 x.2.2
 ret y := [.raw true [(.osl 0),(.osl 1)],.dat T2 y.1]
 hout y := [(0,.arr 3 T2 y.2.1),(1,.arr 33 T2 y.2.2)]
 nout := 2
theorem C97_vc (t : LI×LI) (e:Int) (d : LI) (y : Int×LI×LI) (q : f97 t e d = some y) : VC Tryz.f97 C97 (t,e,d) y := by
 unfold f97 at q
 refine OL (OL (OL (cI q (fun q=>?_) (fun q=>?_))))
 ·refine OL (OL ?_)
  cases sE q
  refine AI rfl (E4 [(0,none),(1,none)] (R2 (AJ (R2 TV))))
 refine OL ?_
 obtain ⟨r1,hr1,q⟩ := bE q
 refine OL (AI f96_in (cV (cQ C96 ((t.1,t.2),d) r1 [] false C96_holds hr1 rfl rfl (R3 (K0 (OL ?_))))))
 cases sE q
 refine AI rfl (E4 [(0,some 2),(1,some 3)] (R2 (AJ (R2 TV))))
theorem C97_holds : HP C97 97 := hH Tryz.f97 (by kernel_rfl) rfl (fun x y q=>C97_vc x.1 x.2.1 x.2.2 y q)
theorem f97_in : InP 97 := inP (by kernel_rfl)
def f98 (a : LI×LI) (b : LI×LI) (first : Bool) : Option (Int×LI×LI) :=
 bif first then
 bindF (f87 (a.1,a.2)) fun r1 =>
 bif (r1.1 != (0:Int)) then
 some (r1.1,[],[])
 else
 bindF (f84 (r1.2.1,r1.2.2) (b.1,b.2)) fun r2 =>
 some (r2.1,r2.2.1,r2.2.2)
 else
 bindF (f87 (b.1,b.2)) fun r3 =>
 bif (r3.1 != (0:Int)) then
 some (r3.1,[],[])
 else
 bindF (f84 (a.1,a.2) (r3.2.1,r3.2.2)) fun r4 =>
 some (r4.1,r4.2.1,r4.2.2)
def C98 : Con where
 X := (LI×LI)×(LI×LI)×Bool
 Y := Int×LI×LI
 e := 0
 args x := [.dat T3 x.1,.dat T3 x.2.1,.dat .bool x.2.2]
 hin x := []
 F x := f98 x.1 x.2.1 x.2.2
 ret y := [.raw true [(.osl 0),(.osl 1)],.dat T2 y.1]
 hout y := [(0,.arr 3 T2 y.2.1),(1,.arr 33 T2 y.2.2)]
 nout := 2
theorem C98_vc (a : LI×LI) (b : LI×LI) (first : Bool) (y : Int×LI×LI) (q : f98 a b first = some y) : VC Tryz.f98 C98 (a,b,first) y := by
 unfold f98 at q
 refine OL (OL (OL (cI q (fun q=>?_) (fun q=>?_))))
 ·refine OL ?_
  obtain ⟨r1,hr1,q⟩ := bE q
  refine OL (AI f87_in (cV (cQ C87 (a.1,a.2) r1 [] false C87_holds hr1 rfl rfl (R2 (K0 (OL (OL (OL (cI q (fun q=>?_) (fun q=>?_))))))))))
  ·refine OL (OL ?_)
   cases sE q
   refine AI rfl (E4 [(0,none),(1,none)] (R2 (AJ (R2 TV))))
  refine OL ?_
  obtain ⟨r2,hr2,q⟩ := bE q
  refine OL (AI f84_in (cV (cQ C84 ((r1.2.1,r1.2.2),(b.1,b.2)) r2 [] true C84_holds hr2 rfl rfl (R4 (AI (fun _=>rfl) (R2 (AI TV (AI TV (OL ?_)))))))))
  cases sE q
  refine AI rfl (E4 [(0,some 6),(1,some 7)] (R2 (AJ (R2 TV))))
 refine OL ?_
 obtain ⟨r3,hr3,q⟩ := bE q
 refine OL (AI f87_in (cV (cQ C87 (b.1,b.2) r3 [] false C87_holds hr3 rfl rfl (R2 (K0 (OL (OL (OL (cI q (fun q=>?_) (fun q=>?_))))))))))
 ·refine OL (OL ?_)
  cases sE q
  refine AI rfl (E4 [(0,none),(1,none)] (R2 (AJ (R2 TV))))
 refine OL ?_
 obtain ⟨r4,hr4,q⟩ := bE q
 refine OL (AI f84_in (cV (cQ C84 ((a.1,a.2),(r3.2.1,r3.2.2)) r4 [] true C84_holds hr4 rfl rfl (R4 (AI (fun _=>rfl) (R2 (AI TV (AI TV (OL ?_)))))))))
 cases sE q
 refine AI rfl (E4 [(0,some 6),(1,some 7)] (R2 (AJ (R2 TV))))
theorem C98_holds : HP C98 98 := hH Tryz.f98 (by kernel_rfl) rfl (fun x y q=>C98_vc x.1 x.2.1 x.2.2 y q)
theorem f98_in : InP 98 := inP (by kernel_rfl)
def f99_l1 (g : LI×LI) (d : LI) (side:Int) (q8_9 : Int×LI×LI) (go : (Int×LI) → Option LI) (v23:Int) (l4 : LI) : Option LI :=
 bif (decide (v23 < (List.length q8_9.2.2:Int))) then
 bindF (f144 d v23) fun q8_9 =>
 guardF (0 ≤ side ∧ side ≤ (List.length q8_9.2:Int)) <|
 guardF (0 ≤ (i64.wrap (side + (1:Int))) ∧ (i64.wrap (side + (1:Int))) ≤ (List.length q8_9.2:Int)) <|
 guardF ((List.length ([] : LI) + List.length (List.take (Int.toNat side) q8_9.2)) * 8 ≤ 140737488355328) <|
 guardF ((List.length (([] : LI) ++ (List.take (Int.toNat side) q8_9.2)) + List.length (List.drop (Int.toNat (i64.wrap (side + (1:Int)))) q8_9.2)) * 8 ≤ 140737488355328) <|
 bindF (f145 g.1 ((([] : LI) ++ (List.take (Int.toNat side) q8_9.2)) ++ (List.drop (Int.toNat (i64.wrap (side + (1:Int)))) q8_9.2))) fun q6_10 =>
 guardF (0 ≤ q6_10.1 ∧ q6_10.1 < (List.length g.2:Int)) <|
 guardF (0 ≤ v23 ∧ v23 < (List.length l4:Int)) <|
 go ((i64.wrap (v23 + (1:Int))),(List.set l4 (Int.toNat v23) (rd (0:Int) g.2 q6_10.1)))
 else
 some l4
def f99 (g : LI×LI) (d : LI) (side:Int) : Option (LI×LI) :=
 bindF (f36 d (0:Int)) fun q8_9 =>
 bindF (loopF (fun go x=>f99_l1 g d side q8_9 go x.1 x.2) fuelN ((0:Int),q8_9.2.2)) fun z2 =>
 some (q8_9.2.1,z2)
def C99 : Con where
 X := (LI×LI)×LI×Int
 Y := LI×LI
 e := 0
 args x := [.dat T3 x.1,.dat T1 x.2.1,.dat T2 x.2.2]
 hin x := []
 F x := f99 x.1 x.2.1 x.2.2
 ret y := [.raw true [(.osl 0),(.osl 1)]]
 hout y := [(0,.arr 3 T2 y.1),(1,.arr 33 T2 y.2)]
 nout := 2
theorem C99_vc (g : LI×LI) (d : LI) (side:Int) (y : LI×LI) (q : f99 g d side = some y) : VC Tryz.f99 C99 (g,d,side) y := by
 unfold f99 at q
 refine OL (OL ?_)
 obtain ⟨q8_9,hq8_9,q⟩ := bE q
 refine OL (AI f36_in (cV (cQ C36 (d,(0:Int)) q8_9 [] false C36_holds hq8_9 rfl rfl (R2 (K0 (OL (OL (OL ?_))))))))
 obtain ⟨z2,hz2,q⟩ := bE q
 refine lI (Int×LI) LI (fun x=>⟨[(1,.dat T1 d),(2,.dat T2 side),(3,P0 0 0),(6,P0 1 0),(7,P0 2 0),(22,.dat T2 (List.length q8_9.2.2:Int)),(23,.dat T2 x.1)],[(0,.cells [(.d T1 g.1),(.d T1 g.2)]),(1,.cells [N0,N0]),(2,.cells [(.osl 3),(.osl 4)]),(3,.arr 3 T2 q8_9.2.1),(4,.arr 33 T2 x.2)],5⟩) (fun z=>[(2,⟨[(6,P0 0 0),(7,P0 1 0)],[(0,.cells [N0,N0]),(1,.cells [(.osl 2),(.osl 3)]),(2,.arr 3 T2 q8_9.2.1),(3,.arr 33 T2 z)],4⟩)]) (loopF (fun go x=>f99_l1 g d side q8_9 go x.1 x.2)) fuelN ((0:Int),q8_9.2.2) z2 (AI hz2 (AI (E4 [(0,some 0),(1,some 1),(2,some 4),(3,some 2),(4,some 3)] (R5 (AI (R3 TV) (R5 TV)))) (AI (fun _ _ h=>lZ h) (AI (fun m=>curI (fun v23=>fun l4 z q=>?_)) ?_))))
 ·have q : f99_l1 g d side q8_9 (loopF (fun go x=>f99_l1 g d side q8_9 go x.1 x.2) m) v23 l4 = some z := q
  unfold f99_l1 at q
  refine OL (OL (cI q (fun q=>?_) (fun q=>?_)))
  ·refine OL (OL (OL ?_))
   obtain ⟨q8_9,hq8_9,q⟩ := bE q
   refine OL (AI f144_in (cV (cQ C144 (d,v23) q8_9 [] false C144_holds hq8_9 rfl rfl (R2 (K0 (OL (EI (.take 1 (.take 2 (.take 3 (.take 5 (.take 6 (.take 7 (.take 8 (.alt 0 (.alt 4 (.alt 9 (.take 10 .done) .done) .done) .done)))))))) (EI [] (EI [5] (AI rfl (gI q (fun q=>?_))))))))))))
   refine gI q (fun q=>?_)
   refine AI TV (OL (AI TV (OL (gI q (fun q=>?_)))))
   refine AI TV (OL (gI q (fun q=>?_)))
   refine OL ?_
   obtain ⟨q6_10,hq6_10,q⟩ := bE q
   refine OL (AI f145_in (cV (cQ C145 (g.1,((([] : LI) ++ (List.take (Int.toNat side) q8_9.2)) ++ (List.drop (Int.toNat (i64.wrap (side + (1:Int)))) q8_9.2))) q6_10 [] true C145_holds hq6_10 rfl rfl (R2 (AI (fun _=>rfl) (R2 (AI TV (AI TV (EI (.take 0 (.take 1 (.take 2 (.take 3 (.take 4 (.take 5 (.take 6 (.take 7 (.take 8 (.alt 9 .done .done)))))))))) (EI [] (EI [] (AI rfl (gI q (fun q=>?_))))))))))))))
   refine gI q (fun q=>?_)
   refine AI TV (OL (EI ((i64.wrap (v23 + (1:Int))),(List.set l4 (Int.toNat v23) (rd (0:Int) g.2 q6_10.1))) (AI q (E4 I5 (R5 (AI (R3 TV) (R5 TV)))))))
  cases sE q
  refine E4 [(0,some 1),(1,some 2),(2,some 3),(3,some 4)] (AI rfl (AI (R2 TV) (R4 TV)))
 refine AI (OL (OL ?_)) TV
 cases sE q
 refine AI rfl (E4 [(0,some 2),(1,some 3)] (AI rfl (AJ (R2 TV))))
theorem C99_holds : HP C99 99 := hH Tryz.f99 (by kernel_rfl) rfl (fun x y q=>C99_vc x.1 x.2.1 x.2.2 y q)
theorem f99_in : InP 99 := inP (by kernel_rfl)
def f176 (is : Bool) (yes:Int) (no:Int) : Option Int :=
 bif is then
 some yes
 else
 some no
def C176 : Con where
 X := Bool×Int×Int
 Y := Int
 e := 0
 args x := [.dat .bool x.1,.dat T2 x.2.1,.dat T2 x.2.2]
 hin x := []
 F x := f176 x.1 x.2.1 x.2.2
 ret y := [.dat T2 y]
 hout y := []
 nout := 0
theorem C176_vc (is : Bool) (yes:Int) (no:Int) (y:Int) (q : f176 is yes no = some y) : VC Tryz.f176 C176 (is,yes,no) y := by
 unfold f176 at q
 refine OL (OL (OL (cI q (fun q=>?_) (fun q=>?_))))
 ·cases sE q
  refine OL (AI rfl (E4 [] (R2 (AI TV TV))))
 cases sE q
 refine OL (AI rfl (E4 [] (R2 (AI TV TV))))
theorem C176_holds : HP C176 176 := hH Tryz.f176 (by kernel_rfl) rfl (fun x y q=>C176_vc x.1 x.2.1 x.2.2 y q)
theorem f176_in : InP 176 := inP (by kernel_rfl)
def f177 (a:Int) (b:Int) : Option Int :=
 bif (decide (a < b)) then
 some (-1:Int)
 else
 bif (decide (a > b)) then
 some (1:Int)
 else
 some (0:Int)
def C177 : Con where
 X := Int×Int
 Y := Int
 e := 0
 args x := [.dat T2 x.1,.dat T2 x.2]
 hin x := []
 F x := f177 x.1 x.2
 ret y := [.dat T2 y]
 hout y := []
 nout := 0
theorem C177_vc (a:Int) (b:Int) (y:Int) (q : f177 a b = some y) : VC Tryz.f177 C177 (a,b) y := by
 unfold f177 at q
 refine OL (OL (OL (cI q (fun q=>?_) (fun q=>?_))))
 ·cases sE q
  refine OL (AI rfl (E4 [] (R2 (AI TV TV))))
 refine OL (cI q (fun q=>?_) (fun q=>?_))
 ·cases sE q
  refine OL (AI rfl (E4 [] (R2 (AI TV TV))))
 cases sE q
 refine OL (AI rfl (E4 [] (R2 (AI TV TV))))
theorem C177_holds : HP C177 177 := hH Tryz.f177 (by kernel_rfl) rfl (fun x y q=>C177_vc x.1 x.2 y q)
theorem f177_in : InP 177 := inP (by kernel_rfl)
end Go.Proofs
