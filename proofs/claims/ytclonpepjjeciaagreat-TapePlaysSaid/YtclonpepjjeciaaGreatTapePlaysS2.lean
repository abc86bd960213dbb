import Derived.Test.YtclonpepjjeciaaGreatTapePlaysS1
set_option linter.unusedVariables false
set_option maxRecDepth 100000
set_option maxHeartbeats 8000000
namespace Go.Proofs
open Go.AM
open IntKind (i64 u64 i32 u32 i16 u16 i8 u8)
def f119_j4 (lo:Int) (y_:Int) (q6_7:Int) (q1:Int) (rhat:Int) : Option (Sum Unit Unit) :=
 bif (decide (q1 ≥ (4294967296:Int))) then
 some (Sum.inl ())
 else
 bif (decide ((u64.wrap (q1 * (bitsOf IntKind.u64 (fun p q=>p &&& q) (u64.wrap (y_ * 2 ^ min (Int.toNat (u64.wrap q6_7)) u64.bits)) (4294967295:Int)))) > (u64.wrap ((u64.wrap ((4294967296:Int) * rhat)) + (Int.fdiv (u64.wrap (lo * 2 ^ min (Int.toNat (u64.wrap q6_7)) u64.bits)) (2 ^ min (Int.toNat (32:Int)) u64.bits)))))) then
 some (Sum.inl ())
 else
 some (Sum.inr ())
def f119_l3 (lo:Int) (y_:Int) (q6_7:Int) (go : (Int×Int) → Option Int) (q1:Int) (rhat:Int) : Option Int :=
 bindF (f119_j4 lo y_ q6_7 q1 rhat) fun z4 =>
 sumF z4 (fun z4a =>
 bif (decide ((u64.wrap (rhat + (Int.fdiv (u64.wrap (y_ * 2 ^ min (Int.toNat (u64.wrap q6_7)) u64.bits)) (2 ^ min (Int.toNat (32:Int)) u64.bits)))) ≥ (4294967296:Int))) then
 some (u64.wrap (q1 - (1:Int)))
 else
 go ((u64.wrap (q1 - (1:Int))),(u64.wrap (rhat + (Int.fdiv (u64.wrap (y_ * 2 ^ min (Int.toNat (u64.wrap q6_7)) u64.bits)) (2 ^ min (Int.toNat (32:Int)) u64.bits)))))) (fun z4b =>
 some q1)
def f119_j8 (lo:Int) (y_:Int) (q6_7:Int) (rhat:Int) (q0:Int) : Option (Sum Unit Unit) :=
 bif (decide (q0 ≥ (4294967296:Int))) then
 some (Sum.inl ())
 else
 bif (decide ((u64.wrap (q0 * (bitsOf IntKind.u64 (fun p q=>p &&& q) (u64.wrap (y_ * 2 ^ min (Int.toNat (u64.wrap q6_7)) u64.bits)) (4294967295:Int)))) > (u64.wrap ((u64.wrap ((4294967296:Int) * rhat)) + (bitsOf IntKind.u64 (fun p q=>p &&& q) (u64.wrap (lo * 2 ^ min (Int.toNat (u64.wrap q6_7)) u64.bits)) (4294967295:Int)))))) then
 some (Sum.inl ())
 else
 some (Sum.inr ())
def f119_l7 (lo:Int) (y_:Int) (q6_7:Int) (go : (Int×Int) → Option Int) (rhat:Int) (q0:Int) : Option Int :=
 bindF (f119_j8 lo y_ q6_7 rhat q0) fun z8 =>
 sumF z8 (fun z8a =>
 bif (decide ((u64.wrap (rhat + (Int.fdiv (u64.wrap (y_ * 2 ^ min (Int.toNat (u64.wrap q6_7)) u64.bits)) (2 ^ min (Int.toNat (32:Int)) u64.bits)))) ≥ (4294967296:Int))) then
 some (u64.wrap (q0 - (1:Int)))
 else
 go ((u64.wrap (rhat + (Int.fdiv (u64.wrap (y_ * 2 ^ min (Int.toNat (u64.wrap q6_7)) u64.bits)) (2 ^ min (Int.toNat (32:Int)) u64.bits)))),(u64.wrap (q0 - (1:Int))))) (fun z8b =>
 some q0)
def f119 (hi:Int) (lo:Int) (y_:Int) : Option (Int×Int) :=
 bif (y_ == (0:Int)) then
 none
 else
 bif (decide (y_ ≤ hi)) then
 none
 else
 bif (hi == (0:Int)) then
 guardF (y_ ≠ 0) <|
 guardF (y_ ≠ 0) <|
 some ((u64.wrap (Int.tdiv lo y_)),(Int.tmod lo y_))
 else
 bindF (f137 y_) fun q6_7 =>
 guardF (0 ≤ (u64.wrap q6_7)) <|
 guardF (0 ≤ (u64.wrap q6_7)) <|
 guardF (0 ≤ (u64.wrap ((64:Int) - (u64.wrap q6_7)))) <|
 guardF (0 ≤ (u64.wrap q6_7)) <|
 guardF ((Int.fdiv (u64.wrap (y_ * 2 ^ min (Int.toNat (u64.wrap q6_7)) u64.bits)) (2 ^ min (Int.toNat (32:Int)) u64.bits)) ≠ 0) <|
 bindF (loopF (fun go x=>f119_l3 lo y_ q6_7 go x.1 x.2) fuelN ((u64.wrap (Int.tdiv (bitsOf IntKind.u64 (fun p q=>p ||| q) (u64.wrap (hi * 2 ^ min (Int.toNat (u64.wrap q6_7)) u64.bits)) (Int.fdiv lo (2 ^ min (Int.toNat (u64.wrap ((64:Int) - (u64.wrap q6_7)))) u64.bits))) (Int.fdiv (u64.wrap (y_ * 2 ^ min (Int.toNat (u64.wrap q6_7)) u64.bits)) (2 ^ min (Int.toNat (32:Int)) u64.bits)))),(u64.wrap ((bitsOf IntKind.u64 (fun p q=>p ||| q) (u64.wrap (hi * 2 ^ min (Int.toNat (u64.wrap q6_7)) u64.bits)) (Int.fdiv lo (2 ^ min (Int.toNat (u64.wrap ((64:Int) - (u64.wrap q6_7)))) u64.bits))) - (u64.wrap ((u64.wrap (Int.tdiv (bitsOf IntKind.u64 (fun p q=>p ||| q) (u64.wrap (hi * 2 ^ min (Int.toNat (u64.wrap q6_7)) u64.bits)) (Int.fdiv lo (2 ^ min (Int.toNat (u64.wrap ((64:Int) - (u64.wrap q6_7)))) u64.bits))) (Int.fdiv (u64.wrap (y_ * 2 ^ min (Int.toNat (u64.wrap q6_7)) u64.bits)) (2 ^ min (Int.toNat (32:Int)) u64.bits)))) * (Int.fdiv (u64.wrap (y_ * 2 ^ min (Int.toNat (u64.wrap q6_7)) u64.bits)) (2 ^ min (Int.toNat (32:Int)) u64.bits)))))))) fun z3 =>
 guardF ((Int.fdiv (u64.wrap (y_ * 2 ^ min (Int.toNat (u64.wrap q6_7)) u64.bits)) (2 ^ min (Int.toNat (32:Int)) u64.bits)) ≠ 0) <|
 bindF (loopF (fun go x=>f119_l7 lo y_ q6_7 go x.1 x.2) fuelN ((u64.wrap ((u64.wrap ((u64.wrap ((u64.wrap ((bitsOf IntKind.u64 (fun p q=>p ||| q) (u64.wrap (hi * 2 ^ min (Int.toNat (u64.wrap q6_7)) u64.bits)) (Int.fdiv lo (2 ^ min (Int.toNat (u64.wrap ((64:Int) - (u64.wrap q6_7)))) u64.bits))) * (4294967296:Int))) + (Int.fdiv (u64.wrap (lo * 2 ^ min (Int.toNat (u64.wrap q6_7)) u64.bits)) (2 ^ min (Int.toNat (32:Int)) u64.bits)))) - (u64.wrap (z3 * (u64.wrap (y_ * 2 ^ min (Int.toNat (u64.wrap q6_7)) u64.bits)))))) - (u64.wrap ((u64.wrap (Int.tdiv (u64.wrap ((u64.wrap ((u64.wrap ((bitsOf IntKind.u64 (fun p q=>p ||| q) (u64.wrap (hi * 2 ^ min (Int.toNat (u64.wrap q6_7)) u64.bits)) (Int.fdiv lo (2 ^ min (Int.toNat (u64.wrap ((64:Int) - (u64.wrap q6_7)))) u64.bits))) * (4294967296:Int))) + (Int.fdiv (u64.wrap (lo * 2 ^ min (Int.toNat (u64.wrap q6_7)) u64.bits)) (2 ^ min (Int.toNat (32:Int)) u64.bits)))) - (u64.wrap (z3 * (u64.wrap (y_ * 2 ^ min (Int.toNat (u64.wrap q6_7)) u64.bits)))))) (Int.fdiv (u64.wrap (y_ * 2 ^ min (Int.toNat (u64.wrap q6_7)) u64.bits)) (2 ^ min (Int.toNat (32:Int)) u64.bits)))) * (Int.fdiv (u64.wrap (y_ * 2 ^ min (Int.toNat (u64.wrap q6_7)) u64.bits)) (2 ^ min (Int.toNat (32:Int)) u64.bits)))))),(u64.wrap (Int.tdiv (u64.wrap ((u64.wrap ((u64.wrap ((bitsOf IntKind.u64 (fun p q=>p ||| q) (u64.wrap (hi * 2 ^ min (Int.toNat (u64.wrap q6_7)) u64.bits)) (Int.fdiv lo (2 ^ min (Int.toNat (u64.wrap ((64:Int) - (u64.wrap q6_7)))) u64.bits))) * (4294967296:Int))) + (Int.fdiv (u64.wrap (lo * 2 ^ min (Int.toNat (u64.wrap q6_7)) u64.bits)) (2 ^ min (Int.toNat (32:Int)) u64.bits)))) - (u64.wrap (z3 * (u64.wrap (y_ * 2 ^ min (Int.toNat (u64.wrap q6_7)) u64.bits)))))) (Int.fdiv (u64.wrap (y_ * 2 ^ min (Int.toNat (u64.wrap q6_7)) u64.bits)) (2 ^ min (Int.toNat (32:Int)) u64.bits)))))) fun z7 =>
 guardF (0 ≤ (u64.wrap q6_7)) <|
 some ((u64.wrap ((u64.wrap (z3 * (4294967296:Int))) + z7)),(Int.fdiv (u64.wrap ((u64.wrap ((u64.wrap ((u64.wrap ((u64.wrap ((u64.wrap ((bitsOf IntKind.u64 (fun p q=>p ||| q) (u64.wrap (hi * 2 ^ min (Int.toNat (u64.wrap q6_7)) u64.bits)) (Int.fdiv lo (2 ^ min (Int.toNat (u64.wrap ((64:Int) - (u64.wrap q6_7)))) u64.bits))) * (4294967296:Int))) + (Int.fdiv (u64.wrap (lo * 2 ^ min (Int.toNat (u64.wrap q6_7)) u64.bits)) (2 ^ min (Int.toNat (32:Int)) u64.bits)))) - (u64.wrap (z3 * (u64.wrap (y_ * 2 ^ min (Int.toNat (u64.wrap q6_7)) u64.bits)))))) * (4294967296:Int))) + (bitsOf IntKind.u64 (fun p q=>p &&& q) (u64.wrap (lo * 2 ^ min (Int.toNat (u64.wrap q6_7)) u64.bits)) (4294967295:Int)))) - (u64.wrap (z7 * (u64.wrap (y_ * 2 ^ min (Int.toNat (u64.wrap q6_7)) u64.bits)))))) (2 ^ min (Int.toNat (u64.wrap q6_7)) u64.bits)))
def C119 : Con where
 X := Int×Int×Int
 Y := Int×Int
 e := 0
 args x := [.dat T4 x.1,.dat T4 x.2.1,.dat T4 x.2.2]
 hin x := []
 F x := f119 x.1 x.2.1 x.2.2
 ret y := [.dat T4 y.1,.dat T4 y.2]
 hout y := []
 nout := 0
theorem C119_vc (hi:Int) (lo:Int) (y_:Int) (y : Int×Int) (q : f119 hi lo y_ = some y) : VC Tryz.f119 C119 (hi,lo,y_) y := by
 unfold f119 at q
 refine OL (OL (OL (cI q (fun q=>?_) (fun q=>?_))))
 ·exact nomatch q
 refine OL (OL (cI q (fun q=>?_) (fun q=>?_)))
 ·exact nomatch q
 refine OL (OL (cI q (fun q=>?_) (fun q=>?_)))
 ·refine OL (EI (.take 0 (.take 1 (.take 2 (.take 3 (.take 4 (.take 5 (.take 6 (.take 7 .done)))))))) (EI [] (EI [] (AI rfl (gI q (fun q=>?_))))))
  refine gI q (fun q=>?_)
  cases sE q
  refine AI rfl (E4 [] (R3 (AI TV TV)))
 refine OL ?_
 obtain ⟨q6_7,hq6_7,q⟩ := bE q
 refine OL (AI f137_in (cV (cQ C137 y_ q6_7 [] false C137_holds hq6_7 rfl rfl (AI rfl (K0 (OL (gI q (fun q=>?_))))))))
 refine OL (AI (by decide) (OL (OL (gI q (fun q=>?_)))))
 refine gI q (fun q=>?_)
 refine OL (gI q (fun q=>?_))
 refine OL (AI (by decide) (OL (OL (gI q (fun q=>?_)))))
 refine OL (OL ?_)
 obtain ⟨z3,hz3,q⟩ := bE q
 refine lI (Int×Int) Int (fun x=>⟨[(2,.dat T4 (u64.wrap (y_ * 2 ^ min (Int.toNat (u64.wrap q6_7)) u64.bits))),(8,.dat T4 (u64.wrap q6_7)),(9,.dat T4 (Int.fdiv (u64.wrap (y_ * 2 ^ min (Int.toNat (u64.wrap q6_7)) u64.bits)) (2 ^ min (Int.toNat (32:Int)) u64.bits))),(10,.dat T4 (bitsOf IntKind.u64 (fun p q=>p &&& q) (u64.wrap (y_ * 2 ^ min (Int.toNat (u64.wrap q6_7)) u64.bits)) (4294967295:Int))),(11,.dat T4 (bitsOf IntKind.u64 (fun p q=>p ||| q) (u64.wrap (hi * 2 ^ min (Int.toNat (u64.wrap q6_7)) u64.bits)) (Int.fdiv lo (2 ^ min (Int.toNat (u64.wrap ((64:Int) - (u64.wrap q6_7)))) u64.bits)))),(13,.dat T4 (Int.fdiv (u64.wrap (lo * 2 ^ min (Int.toNat (u64.wrap q6_7)) u64.bits)) (2 ^ min (Int.toNat (32:Int)) u64.bits))),(14,.dat T4 (bitsOf IntKind.u64 (fun p q=>p &&& q) (u64.wrap (lo * 2 ^ min (Int.toNat (u64.wrap q6_7)) u64.bits)) (4294967295:Int))),(15,.dat T4 x.1),(16,.dat T4 x.2)],[],0⟩) (fun z=>[(2,⟨[(2,.dat T4 (u64.wrap (y_ * 2 ^ min (Int.toNat (u64.wrap q6_7)) u64.bits))),(8,.dat T4 (u64.wrap q6_7)),(9,.dat T4 (Int.fdiv (u64.wrap (y_ * 2 ^ min (Int.toNat (u64.wrap q6_7)) u64.bits)) (2 ^ min (Int.toNat (32:Int)) u64.bits))),(10,.dat T4 (bitsOf IntKind.u64 (fun p q=>p &&& q) (u64.wrap (y_ * 2 ^ min (Int.toNat (u64.wrap q6_7)) u64.bits)) (4294967295:Int))),(11,.dat T4 (bitsOf IntKind.u64 (fun p q=>p ||| q) (u64.wrap (hi * 2 ^ min (Int.toNat (u64.wrap q6_7)) u64.bits)) (Int.fdiv lo (2 ^ min (Int.toNat (u64.wrap ((64:Int) - (u64.wrap q6_7)))) u64.bits)))),(13,.dat T4 (Int.fdiv (u64.wrap (lo * 2 ^ min (Int.toNat (u64.wrap q6_7)) u64.bits)) (2 ^ min (Int.toNat (32:Int)) u64.bits))),(14,.dat T4 (bitsOf IntKind.u64 (fun p q=>p &&& q) (u64.wrap (lo * 2 ^ min (Int.toNat (u64.wrap q6_7)) u64.bits)) (4294967295:Int))),(15,.dat T4 z)],[],0⟩)]) (loopF (fun go x=>f119_l3 lo y_ q6_7 go x.1 x.2)) fuelN ((u64.wrap (Int.tdiv (bitsOf IntKind.u64 (fun p q=>p ||| q) (u64.wrap (hi * 2 ^ min (Int.toNat (u64.wrap q6_7)) u64.bits)) (Int.fdiv lo (2 ^ min (Int.toNat (u64.wrap ((64:Int) - (u64.wrap q6_7)))) u64.bits))) (Int.fdiv (u64.wrap (y_ * 2 ^ min (Int.toNat (u64.wrap q6_7)) u64.bits)) (2 ^ min (Int.toNat (32:Int)) u64.bits)))),(u64.wrap ((bitsOf IntKind.u64 (fun p q=>p ||| q) (u64.wrap (hi * 2 ^ min (Int.toNat (u64.wrap q6_7)) u64.bits)) (Int.fdiv lo (2 ^ min (Int.toNat (u64.wrap ((64:Int) - (u64.wrap q6_7)))) u64.bits))) - (u64.wrap ((u64.wrap (Int.tdiv (bitsOf IntKind.u64 (fun p q=>p ||| q) (u64.wrap (hi * 2 ^ min (Int.toNat (u64.wrap q6_7)) u64.bits)) (Int.fdiv lo (2 ^ min (Int.toNat (u64.wrap ((64:Int) - (u64.wrap q6_7)))) u64.bits))) (Int.fdiv (u64.wrap (y_ * 2 ^ min (Int.toNat (u64.wrap q6_7)) u64.bits)) (2 ^ min (Int.toNat (32:Int)) u64.bits)))) * (Int.fdiv (u64.wrap (y_ * 2 ^ min (Int.toNat (u64.wrap q6_7)) u64.bits)) (2 ^ min (Int.toNat (32:Int)) u64.bits))))))) z3 (AI hz3 (AI (E4 [] (R10 (AI TV TV))) (AI (fun _ _ h=>lZ h) (AI (fun m=>curI (fun q1=>fun rhat z q=>?_)) ?_))))
 ·have q : f119_l3 lo y_ q6_7 (loopF (fun go x=>f119_l3 lo y_ q6_7 go x.1 x.2) m) q1 rhat = some z := q
  unfold f119_l3 at q
  obtain ⟨z4,hz4,q⟩ := bE q
  refine OQ ⟨Sum.elim (fun z4a=>[(0,⟨[(2,.dat T4 (u64.wrap (y_ * 2 ^ min (Int.toNat (u64.wrap q6_7)) u64.bits))),(8,.dat T4 (u64.wrap q6_7)),(9,.dat T4 (Int.fdiv (u64.wrap (y_ * 2 ^ min (Int.toNat (u64.wrap q6_7)) u64.bits)) (2 ^ min (Int.toNat (32:Int)) u64.bits))),(10,.dat T4 (bitsOf IntKind.u64 (fun p q=>p &&& q) (u64.wrap (y_ * 2 ^ min (Int.toNat (u64.wrap q6_7)) u64.bits)) (4294967295:Int))),(11,.dat T4 (bitsOf IntKind.u64 (fun p q=>p ||| q) (u64.wrap (hi * 2 ^ min (Int.toNat (u64.wrap q6_7)) u64.bits)) (Int.fdiv lo (2 ^ min (Int.toNat (u64.wrap ((64:Int) - (u64.wrap q6_7)))) u64.bits)))),(13,.dat T4 (Int.fdiv (u64.wrap (lo * 2 ^ min (Int.toNat (u64.wrap q6_7)) u64.bits)) (2 ^ min (Int.toNat (32:Int)) u64.bits))),(14,.dat T4 (bitsOf IntKind.u64 (fun p q=>p &&& q) (u64.wrap (lo * 2 ^ min (Int.toNat (u64.wrap q6_7)) u64.bits)) (4294967295:Int))),(15,.dat T4 q1),(16,.dat T4 rhat)],[],0⟩)]) (fun z4b=>[(2,⟨[(2,.dat T4 (u64.wrap (y_ * 2 ^ min (Int.toNat (u64.wrap q6_7)) u64.bits))),(8,.dat T4 (u64.wrap q6_7)),(9,.dat T4 (Int.fdiv (u64.wrap (y_ * 2 ^ min (Int.toNat (u64.wrap q6_7)) u64.bits)) (2 ^ min (Int.toNat (32:Int)) u64.bits))),(10,.dat T4 (bitsOf IntKind.u64 (fun p q=>p &&& q) (u64.wrap (y_ * 2 ^ min (Int.toNat (u64.wrap q6_7)) u64.bits)) (4294967295:Int))),(11,.dat T4 (bitsOf IntKind.u64 (fun p q=>p ||| q) (u64.wrap (hi * 2 ^ min (Int.toNat (u64.wrap q6_7)) u64.bits)) (Int.fdiv lo (2 ^ min (Int.toNat (u64.wrap ((64:Int) - (u64.wrap q6_7)))) u64.bits)))),(13,.dat T4 (Int.fdiv (u64.wrap (lo * 2 ^ min (Int.toNat (u64.wrap q6_7)) u64.bits)) (2 ^ min (Int.toNat (32:Int)) u64.bits))),(14,.dat T4 (bitsOf IntKind.u64 (fun p q=>p &&& q) (u64.wrap (lo * 2 ^ min (Int.toNat (u64.wrap q6_7)) u64.bits)) (4294967295:Int))),(15,.dat T4 q1)],[],0⟩)]) z4,?_,?_⟩
  ·have q := hz4
   clear hz4
   unfold f119_j4 at q
   refine OL (cN q (fun q=>?_) (fun q=>?_))
   ·refine gY (gY (gY (gY (gY (gY (gY (cF (cI q (fun q=>?_) (fun q=>?_)))))))))
    ·cases sE q
     refine E4 [] (R10 (AI TV TV))
    cases sE q
    refine E4 [] (R9 (AI TV TV))
   refine gN (gN (gN (gN (gN (gN (gN (cT (cT ?_))))))))
   cases sE q
   refine E4 [] (R10 (AI TV TV))
  rcases z4 with z4a | z4b
  ·dsimp only [sumF] at q
   refine AI (OL (OL (OL (cI q (fun q=>?_) (fun q=>?_))))) TV
   ·cases sE q
    refine E4 [] (R9 (AI TV TV))
   refine EI ((u64.wrap (q1 - (1:Int))),(u64.wrap (rhat + (Int.fdiv (u64.wrap (y_ * 2 ^ min (Int.toNat (u64.wrap q6_7)) u64.bits)) (2 ^ min (Int.toNat (32:Int)) u64.bits))))) (AI q (E4 [] (R10 (AI TV TV))))
  dsimp only [sumF] at q
  refine AI ?_ TV
  cases sE q
  refine E4 [] (R9 (AI TV TV))
 refine AI (OL (OL (gI q (fun q=>?_)))) TV
 refine OL (OL ?_)
 obtain ⟨z7,hz7,q⟩ := bE q
 refine lI (Int×Int) Int (fun x=>⟨[(2,.dat T4 (u64.wrap (y_ * 2 ^ min (Int.toNat (u64.wrap q6_7)) u64.bits))),(8,.dat T4 (u64.wrap q6_7)),(9,.dat T4 (Int.fdiv (u64.wrap (y_ * 2 ^ min (Int.toNat (u64.wrap q6_7)) u64.bits)) (2 ^ min (Int.toNat (32:Int)) u64.bits))),(10,.dat T4 (bitsOf IntKind.u64 (fun p q=>p &&& q) (u64.wrap (y_ * 2 ^ min (Int.toNat (u64.wrap q6_7)) u64.bits)) (4294967295:Int))),(14,.dat T4 (bitsOf IntKind.u64 (fun p q=>p &&& q) (u64.wrap (lo * 2 ^ min (Int.toNat (u64.wrap q6_7)) u64.bits)) (4294967295:Int))),(15,.dat T4 z3),(16,.dat T4 x.1),(17,.dat T4 (u64.wrap ((u64.wrap ((u64.wrap ((bitsOf IntKind.u64 (fun p q=>p ||| q) (u64.wrap (hi * 2 ^ min (Int.toNat (u64.wrap q6_7)) u64.bits)) (Int.fdiv lo (2 ^ min (Int.toNat (u64.wrap ((64:Int) - (u64.wrap q6_7)))) u64.bits))) * (4294967296:Int))) + (Int.fdiv (u64.wrap (lo * 2 ^ min (Int.toNat (u64.wrap q6_7)) u64.bits)) (2 ^ min (Int.toNat (32:Int)) u64.bits)))) - (u64.wrap (z3 * (u64.wrap (y_ * 2 ^ min (Int.toNat (u64.wrap q6_7)) u64.bits))))))),(18,.dat T4 x.2)],[],0⟩) (fun z=>[(4,⟨[(2,.dat T4 (u64.wrap (y_ * 2 ^ min (Int.toNat (u64.wrap q6_7)) u64.bits))),(8,.dat T4 (u64.wrap q6_7)),(14,.dat T4 (bitsOf IntKind.u64 (fun p q=>p &&& q) (u64.wrap (lo * 2 ^ min (Int.toNat (u64.wrap q6_7)) u64.bits)) (4294967295:Int))),(15,.dat T4 z3),(17,.dat T4 (u64.wrap ((u64.wrap ((u64.wrap ((bitsOf IntKind.u64 (fun p q=>p ||| q) (u64.wrap (hi * 2 ^ min (Int.toNat (u64.wrap q6_7)) u64.bits)) (Int.fdiv lo (2 ^ min (Int.toNat (u64.wrap ((64:Int) - (u64.wrap q6_7)))) u64.bits))) * (4294967296:Int))) + (Int.fdiv (u64.wrap (lo * 2 ^ min (Int.toNat (u64.wrap q6_7)) u64.bits)) (2 ^ min (Int.toNat (32:Int)) u64.bits)))) - (u64.wrap (z3 * (u64.wrap (y_ * 2 ^ min (Int.toNat (u64.wrap q6_7)) u64.bits))))))),(18,.dat T4 z)],[],0⟩)]) (loopF (fun go x=>f119_l7 lo y_ q6_7 go x.1 x.2)) fuelN ((u64.wrap ((u64.wrap ((u64.wrap ((u64.wrap ((bitsOf IntKind.u64 (fun p q=>p ||| q) (u64.wrap (hi * 2 ^ min (Int.toNat (u64.wrap q6_7)) u64.bits)) (Int.fdiv lo (2 ^ min (Int.toNat (u64.wrap ((64:Int) - (u64.wrap q6_7)))) u64.bits))) * (4294967296:Int))) + (Int.fdiv (u64.wrap (lo * 2 ^ min (Int.toNat (u64.wrap q6_7)) u64.bits)) (2 ^ min (Int.toNat (32:Int)) u64.bits)))) - (u64.wrap (z3 * (u64.wrap (y_ * 2 ^ min (Int.toNat (u64.wrap q6_7)) u64.bits)))))) - (u64.wrap ((u64.wrap (Int.tdiv (u64.wrap ((u64.wrap ((u64.wrap ((bitsOf IntKind.u64 (fun p q=>p ||| q) (u64.wrap (hi * 2 ^ min (Int.toNat (u64.wrap q6_7)) u64.bits)) (Int.fdiv lo (2 ^ min (Int.toNat (u64.wrap ((64:Int) - (u64.wrap q6_7)))) u64.bits))) * (4294967296:Int))) + (Int.fdiv (u64.wrap (lo * 2 ^ min (Int.toNat (u64.wrap q6_7)) u64.bits)) (2 ^ min (Int.toNat (32:Int)) u64.bits)))) - (u64.wrap (z3 * (u64.wrap (y_ * 2 ^ min (Int.toNat (u64.wrap q6_7)) u64.bits)))))) (Int.fdiv (u64.wrap (y_ * 2 ^ min (Int.toNat (u64.wrap q6_7)) u64.bits)) (2 ^ min (Int.toNat (32:Int)) u64.bits)))) * (Int.fdiv (u64.wrap (y_ * 2 ^ min (Int.toNat (u64.wrap q6_7)) u64.bits)) (2 ^ min (Int.toNat (32:Int)) u64.bits)))))),(u64.wrap (Int.tdiv (u64.wrap ((u64.wrap ((u64.wrap ((bitsOf IntKind.u64 (fun p q=>p ||| q) (u64.wrap (hi * 2 ^ min (Int.toNat (u64.wrap q6_7)) u64.bits)) (Int.fdiv lo (2 ^ min (Int.toNat (u64.wrap ((64:Int) - (u64.wrap q6_7)))) u64.bits))) * (4294967296:Int))) + (Int.fdiv (u64.wrap (lo * 2 ^ min (Int.toNat (u64.wrap q6_7)) u64.bits)) (2 ^ min (Int.toNat (32:Int)) u64.bits)))) - (u64.wrap (z3 * (u64.wrap (y_ * 2 ^ min (Int.toNat (u64.wrap q6_7)) u64.bits)))))) (Int.fdiv (u64.wrap (y_ * 2 ^ min (Int.toNat (u64.wrap q6_7)) u64.bits)) (2 ^ min (Int.toNat (32:Int)) u64.bits))))) z7 (AI hz7 (AI (E4 [] (R10 (AI TV TV))) (AI (fun _ _ h=>lZ h) (AI (fun m=>curI (fun rhat=>fun q0 z q=>?_)) ?_))))
 ·have q : f119_l7 lo y_ q6_7 (loopF (fun go x=>f119_l7 lo y_ q6_7 go x.1 x.2) m) rhat q0 = some z := q
  unfold f119_l7 at q
  obtain ⟨z8,hz8,q⟩ := bE q
  refine OQ ⟨Sum.elim (fun z8a=>[(0,⟨[(2,.dat T4 (u64.wrap (y_ * 2 ^ min (Int.toNat (u64.wrap q6_7)) u64.bits))),(8,.dat T4 (u64.wrap q6_7)),(9,.dat T4 (Int.fdiv (u64.wrap (y_ * 2 ^ min (Int.toNat (u64.wrap q6_7)) u64.bits)) (2 ^ min (Int.toNat (32:Int)) u64.bits))),(10,.dat T4 (bitsOf IntKind.u64 (fun p q=>p &&& q) (u64.wrap (y_ * 2 ^ min (Int.toNat (u64.wrap q6_7)) u64.bits)) (4294967295:Int))),(14,.dat T4 (bitsOf IntKind.u64 (fun p q=>p &&& q) (u64.wrap (lo * 2 ^ min (Int.toNat (u64.wrap q6_7)) u64.bits)) (4294967295:Int))),(15,.dat T4 z3),(16,.dat T4 rhat),(17,.dat T4 (u64.wrap ((u64.wrap ((u64.wrap ((bitsOf IntKind.u64 (fun p q=>p ||| q) (u64.wrap (hi * 2 ^ min (Int.toNat (u64.wrap q6_7)) u64.bits)) (Int.fdiv lo (2 ^ min (Int.toNat (u64.wrap ((64:Int) - (u64.wrap q6_7)))) u64.bits))) * (4294967296:Int))) + (Int.fdiv (u64.wrap (lo * 2 ^ min (Int.toNat (u64.wrap q6_7)) u64.bits)) (2 ^ min (Int.toNat (32:Int)) u64.bits)))) - (u64.wrap (z3 * (u64.wrap (y_ * 2 ^ min (Int.toNat (u64.wrap q6_7)) u64.bits))))))),(18,.dat T4 q0)],[],0⟩)]) (fun z8b=>[(4,⟨[(2,.dat T4 (u64.wrap (y_ * 2 ^ min (Int.toNat (u64.wrap q6_7)) u64.bits))),(8,.dat T4 (u64.wrap q6_7)),(14,.dat T4 (bitsOf IntKind.u64 (fun p q=>p &&& q) (u64.wrap (lo * 2 ^ min (Int.toNat (u64.wrap q6_7)) u64.bits)) (4294967295:Int))),(15,.dat T4 z3),(17,.dat T4 (u64.wrap ((u64.wrap ((u64.wrap ((bitsOf IntKind.u64 (fun p q=>p ||| q) (u64.wrap (hi * 2 ^ min (Int.toNat (u64.wrap q6_7)) u64.bits)) (Int.fdiv lo (2 ^ min (Int.toNat (u64.wrap ((64:Int) - (u64.wrap q6_7)))) u64.bits))) * (4294967296:Int))) + (Int.fdiv (u64.wrap (lo * 2 ^ min (Int.toNat (u64.wrap q6_7)) u64.bits)) (2 ^ min (Int.toNat (32:Int)) u64.bits)))) - (u64.wrap (z3 * (u64.wrap (y_ * 2 ^ min (Int.toNat (u64.wrap q6_7)) u64.bits))))))),(18,.dat T4 q0)],[],0⟩)]) z8,?_,?_⟩
  ·have q := hz8
   clear hz8
   unfold f119_j8 at q
   refine OL (cN q (fun q=>?_) (fun q=>?_))
   ·refine gY (gY (gY (gY (gY (gY (gY (cF (cI q (fun q=>?_) (fun q=>?_)))))))))
    ·cases sE q
     refine E4 [] (R10 (AI TV TV))
    cases sE q
    refine E4 [] (R7 (AI TV TV))
   refine gN (gN (gN (gN (gN (gN (gN (cT (cT ?_))))))))
   cases sE q
   refine E4 [] (R10 (AI TV TV))
  rcases z8 with z8a | z8b
  ·dsimp only [sumF] at q
   refine AI (OL (OL (OL (cI q (fun q=>?_) (fun q=>?_))))) TV
   ·cases sE q
    refine E4 [] (R7 (AI TV TV))
   refine EI ((u64.wrap (rhat + (Int.fdiv (u64.wrap (y_ * 2 ^ min (Int.toNat (u64.wrap q6_7)) u64.bits)) (2 ^ min (Int.toNat (32:Int)) u64.bits)))),(u64.wrap (q0 - (1:Int)))) (AI q (E4 [] (R10 (AI TV TV))))
  dsimp only [sumF] at q
  refine AI ?_ TV
  cases sE q
  refine E4 [] (R7 (AI TV TV))
 refine AI (OL (gI q (fun q=>?_))) TV
 cases sE q
 refine AI rfl (E4 [] (R3 (AI TV TV)))
theorem C119_holds : HP C119 119 := hH Tryz.f119 (by kernel_rfl) rfl (fun x y q=>C119_vc x.1 x.2.1 x.2.2 y q)
theorem f119_in : InP 119 := inP (by kernel_rfl)
def f115_j3 (r2:Int) (r4 : Int×Int) : Option Bool :=
 bif (decide (r4.2 > (u64.wrap (r2 - r4.2)))) then
 some true
 else
 bif (r4.2 == (u64.wrap (r2 - r4.2))) then
 some ((bitsOf IntKind.u64 (fun p q=>p &&& q) r4.1 (1:Int)) == (1:Int))
 else
 some false
def f115_j2 (r2:Int) (r4 : Int×Int) : Option (Int×Int) :=
 bindF (f115_j3 r2 r4) fun z8 =>
 bif z8 then
 bindF (add64 r4.1 (1:Int) (0:Int)) fun r9 =>
 some (r9.1,r9.2)
 else
 some (r4.1,(0:Int))
def f115 (a:Int) (b:Int) : Option Int :=
 bif (b == (0:Int)) then
 bif (decide (a > (0:Int))) then
 some (9223372036854775807:Int)
 else
 bif (decide (a < (0:Int))) then
 some (-9223372036854775808:Int)
 else
 some (0:Int)
 else
 bindF (f106 a) fun r1 =>
 bindF (f106 b) fun r2 =>
 bif (decide ((Int.fdiv r1 (2 ^ min (Int.toNat (32:Int)) u64.bits)) ≥ r2)) then
 bindF (f108 (1:Int) (0:Int) (!((decide (a < (0:Int))) == (decide (b < (0:Int)))))) fun r3 =>
 some r3
 else
 bindF (f119 (Int.fdiv r1 (2 ^ min (Int.toNat (32:Int)) u64.bits)) (u64.wrap (r1 * 2 ^ min (Int.toNat (32:Int)) u64.bits)) r2) fun r4 =>
 bindF (f115_j2 r2 r4) fun z7 =>
 bindF (f108 z7.2 z7.1 (!((decide (a < (0:Int))) == (decide (b < (0:Int)))))) fun r10 =>
 some r10
def C115 : Con where
 X := Int×Int
 Y := Int
 e := 0
 args x := [.dat T2 x.1,.dat T2 x.2]
 hin x := []
 F x := f115 x.1 x.2
 ret y := [.dat T2 y]
 hout y := []
 nout := 0
theorem C115_vc (a:Int) (b:Int) (y:Int) (q : f115 a b = some y) : VC Tryz.f115 C115 (a,b) y := by
 unfold f115 at q
 refine OL (OL (OL (cI q (fun q=>?_) (fun q=>?_))))
 ·refine OL (OL (cI q (fun q=>?_) (fun q=>?_)))
  ·cases sE q
   refine OL (AI rfl (E4 [] (R2 (AI TV TV))))
  refine OL (cI q (fun q=>?_) (fun q=>?_))
  ·cases sE q
   refine OL (AI rfl (E4 [] (R2 (AI TV TV))))
  cases sE q
  refine OL (AI rfl (E4 [] (R2 (AI TV TV))))
 refine OL ?_
 obtain ⟨r1,hr1,q⟩ := bE q
 refine OL (AI f106_in (cV (cQ C106 a r1 [] false C106_holds hr1 rfl rfl (AI rfl (K0 ?_)))))
 obtain ⟨r2,hr2,q⟩ := bE q
 refine OL (AI f106_in (cV (cQ C106 b r2 [] false C106_holds hr2 rfl rfl (AI rfl (K0 (OL (OL (AI (by decide) (AI (by decide) (OL (OL (cI q (fun q=>?_) (fun q=>?_)))))))))))))
 ·refine OL ?_
  obtain ⟨r3,hr3,q⟩ := bE q
  refine OL (AI f108_in (cV (cQ C108 ((1:Int),(0:Int),(!((decide (a < (0:Int))) == (decide (b < (0:Int)))))) r3 [] false C108_holds hr3 rfl rfl (R3 (K0 ?_)))))
  cases sE q
  refine AI rfl (E4 [] (R2 (AI TV TV)))
 refine OL ?_
 obtain ⟨r4,hr4,q⟩ := bE q
 refine OL (AI f119_in (cV (cQ C119 ((Int.fdiv r1 (2 ^ min (Int.toNat (32:Int)) u64.bits)),(u64.wrap (r1 * 2 ^ min (Int.toNat (32:Int)) u64.bits)),r2) r4 [] false C119_holds hr4 rfl rfl (R3 (K0 (OL ?_))))))
 obtain ⟨z7,hz7,q⟩ := bE q
 refine OQ ⟨[(0,⟨[(7,.dat .bool (!((decide (a < (0:Int))) == (decide (b < (0:Int)))))),(10,.dat T4 z7.1),(12,.dat T4 z7.2)],[],0⟩)],?_,?_⟩
 ·have q := hz7
  clear hz7
  unfold f115_j2 at q
  obtain ⟨z8,hz8,q⟩ := bE q
  refine OQ ⟨[(0,⟨[(7,.dat .bool (!((decide (a < (0:Int))) == (decide (b < (0:Int)))))),(10,.dat T4 r4.1),(12,.dat T4 (0:Int)),(62,.dat .bool z8)],[],0⟩)],?_,?_⟩
  ·have q := hz8
   clear hz8
   unfold f115_j3 at q
   refine cN q (fun q=>?_) (fun q=>?_)
   ·refine gY (gY (gY (gY (gY (cI q (fun q=>?_) (fun q=>?_))))))
    ·refine gX (gX (gY (cT (cF ?_))))
     cases sE q
     refine E4 [] (R5 (AI TV TV))
    refine gM (gM (gY (cF (cF ?_))))
    cases sE q
    refine E4 [] (R5 (AI TV TV))
   refine gN (gN (gN (gN (gN (gN (cT ?_))))))
   cases sE q
   refine E4 [] (R5 (AI TV TV))
  refine AI (cI q (fun q=>?_) (fun q=>?_)) TV
  ·obtain ⟨r9,hr9,q⟩ := bE q
   refine OQ ⟨ext3 add64,[r9.1,r9.2],add64_ok,AI (ext3I hr9) ?_⟩
   cases sE q
   refine E4 [] (R4 (AI TV TV))
  cases sE q
  refine E4 [] (R4 (AI TV TV))
 refine AI (OL ?_) TV
 obtain ⟨r10,hr10,q⟩ := bE q
 refine OL (AI f108_in (cV (cQ C108 (z7.2,z7.1,(!((decide (a < (0:Int))) == (decide (b < (0:Int)))))) r10 [] false C108_holds hr10 rfl rfl (R3 (K0 ?_)))))
 cases sE q
 refine AI rfl (E4 [] (R2 (AI TV TV)))
theorem C115_holds : HP C115 115 := hH Tryz.f115 (by kernel_rfl) rfl (fun x y q=>C115_vc x.1 x.2 y q)
theorem f115_in : InP 115 := inP (by kernel_rfl)
def f117 (a : Int×Int) : Option (Int×Int×Bool) :=
 bif (decide (a.1 < (0:Int))) then
 bindF (f120 (a.1,a.2)) fun q4_7 =>
 some ((u64.wrap q4_7.1),q4_7.2,true)
 else
 some ((u64.wrap a.1),a.2,false)
def C117 : Con where
 X := Int×Int
 Y := Int×Int×Bool
 e := 0
 args x := [.dat T5 x]
 hin x := []
 F x := f117 x
 ret y := [.dat T4 y.1,.dat T4 y.2.1,.dat .bool y.2.2]
 hout y := []
 nout := 0
theorem C117_vc (a : Int×Int) (y : Int×Int×Bool) (q : f117 a = some y) : VC Tryz.f117 C117 a y := by
 unfold f117 at q
 refine OL (OL (OL (cI q (fun q=>?_) (fun q=>?_))))
 ·refine OL ?_
  obtain ⟨q4_7,hq4_7,q⟩ := bE q
  refine OL (AI f120_in (cV (cQ C120 (a.1,a.2) q4_7 [] false C120_holds hq4_7 rfl rfl (R2 (K0 (OL (OL (EI (.take 0 (.take 1 (.take 2 (.take 3 (.take 4 (.take 5 (.take 6 (.take 7 .done)))))))) (EI [] (EI [] (AI rfl ?_)))))))))))
  cases sE q
  refine AI rfl (E4 [] (R4 (AI TV TV)))
 refine OL (EI (.take 0 (.take 1 (.take 2 (.take 3 (.take 4 (.take 5 (.take 6 (.take 7 .done)))))))) (EI [] (EI [] (AI rfl ?_))))
 cases sE q
 refine AI rfl (E4 [] (R4 (AI TV TV)))
theorem C117_holds : HP C117 117 := hH Tryz.f117 (by kernel_rfl) rfl (fun x y q=>C117_vc x y q)
theorem f117_in : InP 117 := inP (by kernel_rfl)
def f83_j3 (r4:Int) (q6_7 : Int×Int) : Option Bool :=
 bif (decide (q6_7.2 > (u64.wrap (r4 - q6_7.2)))) then
 some true
 else
 bif (q6_7.2 == (u64.wrap (r4 - q6_7.2))) then
 some ((bitsOf IntKind.u64 (fun p q=>p &&& q) q6_7.1 (1:Int)) == (1:Int))
 else
 some false
def f83_j2 (r3 : Int×Int×Bool) (r4:Int) (q6_7 : Int×Int) : Option (Int×Int) :=
 bindF (f83_j3 r4 q6_7) fun z8 =>
 bif z8 then
 bindF (add64 q6_7.1 (1:Int) (0:Int)) fun r9 =>
 some ((u64.wrap ((u64.wrap (Int.tdiv r3.1 r4)) + r9.2)),r9.1)
 else
 some ((u64.wrap (Int.tdiv r3.1 r4)),q6_7.1)
def f83 (a : Int×Int) (n:Int) : Option Int :=
 bif (n == (0:Int)) then
 bindF (f116 (a.1,a.2) ((0:Int),(0:Int))) fun r1 =>
 bindF (f115 r1 (0:Int)) fun r2 =>
 some r2
 else
 bindF (f117 (a.1,a.2)) fun r3 =>
 bindF (f118 n) fun r4 =>
 guardF (r4 ≠ 0) <|
 guardF (r4 ≠ 0) <|
 bindF (f119 (Int.tmod r3.1 r4) r3.2.1 r4) fun q6_7 =>
 bindF (f83_j2 r3 r4 q6_7) fun z7 =>
 bif (!(r3.2.2 == (decide (n < (0:Int))))) then
 bindF (f120 ((i64.wrap (if (9223372036854775807:Int) < z7.1 then (9223372036854775807:Int) else z7.1)),z7.2)) fun r10 =>
 bindF (f81 (r10.1,r10.2)) fun r11 =>
 some r11
 else
 bindF (f81 ((i64.wrap (if (9223372036854775807:Int) < z7.1 then (9223372036854775807:Int) else z7.1)),z7.2)) fun r12 =>
 some r12
def C83 : Con where
 X := (Int×Int)×Int
 Y := Int
 e := 0
 args x := [.dat T5 x.1,.dat T2 x.2]
 hin x := []
 F x := f83 x.1 x.2
 ret y := [.dat T2 y]
 hout y := []
 nout := 0
theorem C83_vc (a : Int×Int) (n:Int) (y:Int) (q : f83 a n = some y) : VC Tryz.f83 C83 (a,n) y := by
 unfold f83 at q
 refine OL (OL (OL (cI q (fun q=>?_) (fun q=>?_))))
 ·refine OL ?_
  obtain ⟨r1,hr1,q⟩ := bE q
  refine OL (AI f116_in (cV (cQ C116 ((a.1,a.2),((0:Int),(0:Int))) r1 [] false C116_holds hr1 rfl rfl (R4 (K0 ?_)))))
  obtain ⟨r2,hr2,q⟩ := bE q
  refine OL (AI f115_in (cV (cQ C115 (r1,(0:Int)) r2 [] false C115_holds hr2 rfl rfl (R2 (K0 ?_)))))
  cases sE q
  refine AI rfl (E4 [] (R2 (AI TV TV)))
 refine OL ?_
 obtain ⟨r3,hr3,q⟩ := bE q
 refine OL (AI f117_in (cV (cQ C117 (a.1,a.2) r3 [] false C117_holds hr3 rfl rfl (R2 (K0 (OL ?_))))))
 obtain ⟨r4,hr4,q⟩ := bE q
 refine OL (AI f118_in (cV (cQ C118 n r4 [] false C118_holds hr4 rfl rfl (AI rfl (K0 (OL (OL (EI (.take 0 (.take 1 (.take 2 (.take 3 (.take 4 (.take 5 (.take 6 (.take 7 .done)))))))) (EI [] (EI [] (AI rfl (gI q (fun q=>?_)))))))))))))
 refine gI q (fun q=>?_)
 refine OL ?_
 obtain ⟨q6_7,hq6_7,q⟩ := bE q
 refine OL (AI f119_in (cV (cQ C119 ((Int.tmod r3.1 r4),r3.2.1,r4) q6_7 [] false C119_holds hq6_7 rfl rfl (R3 (K0 ?_)))))
 obtain ⟨z7,hz7,q⟩ := bE q
 refine OQ ⟨[(0,⟨[(7,.dat .bool (!(r3.2.2 == (decide (n < (0:Int)))))),(9,.dat T4 z7.1),(11,.dat T4 z7.2)],[],0⟩)],?_,?_⟩
 ·have q := hz7
  clear hz7
  unfold f83_j2 at q
  obtain ⟨z8,hz8,q⟩ := bE q
  refine OQ ⟨[(0,⟨[(7,.dat .bool (!(r3.2.2 == (decide (n < (0:Int)))))),(9,.dat T4 (u64.wrap (Int.tdiv r3.1 r4))),(11,.dat T4 q6_7.1),(61,.dat .bool z8)],[],0⟩)],?_,?_⟩
  ·have q := hz8
   clear hz8
   unfold f83_j3 at q
   refine cN q (fun q=>?_) (fun q=>?_)
   ·refine gY (gY (gY (gY (gY (cI q (fun q=>?_) (fun q=>?_))))))
    ·refine gX (gX (gY (cT (cF ?_))))
     cases sE q
     refine E4 [] (R5 (AI TV TV))
    refine gM (gM (gY (cF (cF ?_))))
    cases sE q
    refine E4 [] (R5 (AI TV TV))
   refine gN (gN (gN (gN (gN (gN (cT ?_))))))
   cases sE q
   refine E4 [] (R5 (AI TV TV))
  refine AI (cI q (fun q=>?_) (fun q=>?_)) TV
  ·refine OL (OL ?_)
   obtain ⟨r9,hr9,q⟩ := bE q
   refine OQ ⟨ext3 add64,[r9.1,r9.2],add64_ok,AI (ext3I hr9) ?_⟩
   cases sE q
   refine E4 [] (R4 (AI TV TV))
  cases sE q
  refine E4 [] (R4 (AI TV TV))
 refine AI (OL (OL (OL (OL (cI q (fun q=>?_) (fun q=>?_)))))) TV
 ·refine OL ?_
  obtain ⟨r10,hr10,q⟩ := bE q
  refine OL (AI f120_in (cV (cQ C120 ((i64.wrap (if (9223372036854775807:Int) < z7.1 then (9223372036854775807:Int) else z7.1)),z7.2) r10 [] false C120_holds hr10 rfl rfl (R2 (K0 ?_)))))
  obtain ⟨r11,hr11,q⟩ := bE q
  refine OL (AI f81_in (cV (cQ C81 (r10.1,r10.2) r11 [] false C81_holds hr11 rfl rfl (R2 (K0 ?_)))))
  cases sE q
  refine AI rfl (E4 [] (R2 (AI TV TV)))
 refine OL ?_
 obtain ⟨r12,hr12,q⟩ := bE q
 refine OL (AI f81_in (cV (cQ C81 ((i64.wrap (if (9223372036854775807:Int) < z7.1 then (9223372036854775807:Int) else z7.1)),z7.2) r12 [] false C81_holds hr12 rfl rfl (R2 (K0 ?_)))))
 cases sE q
 refine AI rfl (E4 [] (R2 (AI TV TV)))
theorem C83_holds : HP C83 83 := hH Tryz.f83 (by kernel_rfl) rfl (fun x y q=>C83_vc x.1 x.2 y q)
theorem f83_in : InP 83 := inP (by kernel_rfl)
def f45 (a : LI×LI) : Option (Int×Int) :=
 bindF (f21 (a.1,a.2)) fun q3_8 =>
 bif (!q3_8) then
 some ((0:Int),(1:Int))
 else
 bindF (f82 a.2) fun q3_2 =>
 bindF (f83 (q3_2.1,q3_2.2) (List.length a.2:Int)) fun q3_6 =>
 some (q3_6,(0:Int))
def C45 : Con where
 X := LI×LI
 Y := Int×Int
 e := 0
 args x := [.dat T3 x]
 hin x := []
 F x := f45 x
 ret y := [.dat T2 y.1,.dat T2 y.2]
 hout y := []
 nout := 0
theorem C45_vc (a : LI×LI) (y : Int×Int) (q : f45 a = some y) : VC Tryz.f45 C45 a y := by
 unfold f45 at q
 refine OL (OL (OL ?_))
 obtain ⟨q3_8,hq3_8,q⟩ := bE q
 refine OL (AI f21_in (cV (cQ C21 (a.1,a.2) q3_8 [] false C21_holds hq3_8 rfl rfl (R2 (K0 (cI q (fun q=>?_) (fun q=>?_)))))))
 ·cases sE q
  refine OL (AI rfl (E4 [] (R3 (AI TV TV))))
 refine OL (EI (.take 0 (.take 1 (.take 3 (.take 4 (.take 5 (.alt 2 (.alt 6 (.take 7 (.take 8 .done)) .done) .done)))))) (EI [] (EI [] (AI rfl (AI TV ?_)))))
 obtain ⟨q3_2,hq3_2,q⟩ := bE q
 refine OL (AI f82_in (cV (cQ C82 a.2 q3_2 [] false C82_holds hq3_2 rfl rfl (AI rfl (K0 (AI TV ?_))))))
 obtain ⟨q3_6,hq3_6,q⟩ := bE q
 refine OL (AI f83_in (cV (cQ C83 ((q3_2.1,q3_2.2),(List.length a.2:Int)) q3_6 [] false C83_holds hq3_6 rfl rfl (R3 (K0 ?_)))))
 cases sE q
 refine AI rfl (E4 [] (R3 (AI TV TV)))
theorem C45_holds : HP C45 45 := hH Tryz.f45 (by kernel_rfl) rfl (fun x y q=>C45_vc x y q)
theorem f45_in : InP 45 := inP (by kernel_rfl)
def f84 (kind:Int) : Option Bool :=
 bif (decide (kind ≥ (1:Int))) then
 some (decide (kind ≤ (5:Int)))
 else
 some false
def C84 : Con where
 X := Int
 Y := Bool
 e := 0
 args x := [.dat T2 x]
 hin x := []
 F x := f84 x
 ret y := [.dat .bool y]
 hout y := []
 nout := 0
theorem C84_vc (kind:Int) (y : Bool) (q : f84 kind = some y) : VC Tryz.f84 C84 kind y := by
 unfold f84 at q
 refine OL (OL (cI q (fun q=>?_) (fun q=>?_)))
 ·refine gX (cT ?_)
  cases sE q
  refine AI rfl (E4 [] (R2 (AI TV TV)))
 refine gM (cF ?_)
 cases sE q
 refine AI rfl (E4 [] (R2 (AI TV TV)))
theorem C84_holds : HP C84 84 := hH Tryz.f84 (by kernel_rfl) rfl (fun x y q=>C84_vc x y q)
theorem f84_in : InP 84 := inP (by kernel_rfl)
def f121 (n:Int) : Option Int :=
 bif (decide (n ≥ (2147483648:Int))) then
 some (9223372036854775807:Int)
 else
 bif (decide (n < (-2147483648:Int))) then
 some (-9223372036854775808:Int)
 else
 some (i64.wrap (n * 2 ^ min (Int.toNat (32:Int)) i64.bits))
def C121 : Con where
 X := Int
 Y := Int
 e := 0
 args x := [.dat T2 x]
 hin x := []
 F x := f121 x
 ret y := [.dat T2 y]
 hout y := []
 nout := 0
theorem C121_vc (n:Int) (y:Int) (q : f121 n = some y) : VC Tryz.f121 C121 n y := by
 unfold f121 at q
 refine OL (OL (OL (cI q (fun q=>?_) (fun q=>?_))))
 ·cases sE q
  refine OL (AI rfl (E4 [] (R2 (AI TV TV))))
 refine OL (cI q (fun q=>?_) (fun q=>?_))
 ·cases sE q
  refine OL (AI rfl (E4 [] (R2 (AI TV TV))))
 refine OL (AI (by decide) ?_)
 cases sE q
 refine AI rfl (E4 [] (R2 (AI TV TV)))
theorem C121_holds : HP C121 121 := hH Tryz.f121 (by kernel_rfl) rfl (fun x y q=>C121_vc x y q)
theorem f121_in : InP 121 := inP (by kernel_rfl)
def f122 (x_:Int) (lo:Int) (hi:Int) : Option Int :=
 some (if hi < (if lo > x_ then lo else x_) then hi else (if lo > x_ then lo else x_))
def C122 : Con where
 X := Int×Int×Int
 Y := Int
 e := 0
 args x := [.dat T2 x.1,.dat T2 x.2.1,.dat T2 x.2.2]
 hin x := []
 F x := f122 x.1 x.2.1 x.2.2
 ret y := [.dat T2 y]
 hout y := []
 nout := 0
theorem C122_vc (x_:Int) (lo:Int) (hi:Int) (y:Int) (q : f122 x_ lo hi = some y) : VC Tryz.f122 C122 (x_,lo,hi) y := by
 unfold f122 at q
 refine OL (OL ?_)
 cases sE q
 refine AI rfl (E4 [] (R2 (AI TV TV)))
theorem C122_holds : HP C122 122 := hH Tryz.f122 (by kernel_rfl) rfl (fun x y q=>C122_vc x.1 x.2.1 x.2.2 y q)
theorem f122_in : InP 122 := inP (by kernel_rfl)
def f123 (a:Int) : Option Int :=
 bif (a == (-9223372036854775808:Int)) then
 some (9223372036854775807:Int)
 else
 some (i64.wrap (0 - a))
def C123 : Con where
 X := Int
 Y := Int
 e := 0
 args x := [.dat T2 x]
 hin x := []
 F x := f123 x
 ret y := [.dat T2 y]
 hout y := []
 nout := 0
theorem C123_vc (a:Int) (y:Int) (q : f123 a = some y) : VC Tryz.f123 C123 a y := by
 unfold f123 at q
 refine OL (OL (OL (cI q (fun q=>?_) (fun q=>?_))))
 ·cases sE q
  refine OL (AI rfl (E4 [] (R2 (AI TV TV))))
 cases sE q
 refine OL (AI rfl (E4 [] (R2 (AI TV TV))))
theorem C123_holds : HP C123 123 := hH Tryz.f123 (by kernel_rfl) rfl (fun x y q=>C123_vc x y q)
theorem f123_in : InP 123 := inP (by kernel_rfl)
def f85 (kind:Int) (x_:Int) : Option (Int×Int) :=
 bif (kind == (1:Int)) then
 some ((if (0:Int) > x_ then (0:Int) else x_),(0:Int))
 else
 bif (kind == (2:Int)) then
 bif (decide (x_ > (0:Int))) then
 some (x_,(0:Int))
 else
 bindF (f121 (8:Int)) fun r1 =>
 bindF (f115 x_ r1) fun r2 =>
 some (r2,(0:Int))
 else
 bif (kind == (3:Int)) then
 bindF (f122 x_ (-4294967296:Int) (4294967296:Int)) fun r3 =>
 some (r3,(0:Int))
 else
 bif (kind == (4:Int)) then
 bif (decide (x_ < (0:Int))) then
 bindF (f123 x_) fun r4 =>
 some (r4,(0:Int))
 else
 some (x_,(0:Int))
 else
 bif (kind == (5:Int)) then
 bindF (f121 (2:Int)) fun r5 =>
 bindF (f115 x_ r5) fun r6 =>
 bindF (f66 r6 (2147483648:Int)) fun r7 =>
 bindF (f122 r7 (0:Int) (4294967296:Int)) fun r8 =>
 some (r8,(0:Int))
 else
 some ((0:Int),(1:Int))
def C85 : Con where
 X := Int×Int
 Y := Int×Int
 e := 0
 args x := [.dat T2 x.1,.dat T2 x.2]
 hin x := []
 F x := f85 x.1 x.2
 ret y := [.dat T2 y.1,.dat T2 y.2]
 hout y := []
 nout := 0
theorem C85_vc (kind:Int) (x_:Int) (y : Int×Int) (q : f85 kind x_ = some y) : VC Tryz.f85 C85 (kind,x_) y := by
 unfold f85 at q
 refine OL (OL (OL (OL (cI q (fun q=>?_) (fun q=>?_)))))
 ·cases sE q
  refine OL (AI rfl (E4 [] (R3 (AI TV TV))))
 refine OL (cI q (fun q=>?_) (fun q=>?_))
 ·refine OL (OL (cI q (fun q=>?_) (fun q=>?_)))
  ·cases sE q
   refine OL (AI rfl (E4 [] (R3 (AI TV TV))))
  refine OL ?_
  obtain ⟨r1,hr1,q⟩ := bE q
  refine OL (AI f121_in (cV (cQ C121 (8:Int) r1 [] false C121_holds hr1 rfl rfl (AI rfl (K0 ?_)))))
  obtain ⟨r2,hr2,q⟩ := bE q
  refine OL (AI f115_in (cV (cQ C115 (x_,r1) r2 [] false C115_holds hr2 rfl rfl (R2 (K0 ?_)))))
  cases sE q
  refine AI rfl (E4 [] (R3 (AI TV TV)))
 refine OL (cI q (fun q=>?_) (fun q=>?_))
 ·refine OL ?_
  obtain ⟨r3,hr3,q⟩ := bE q
  have hr3 : C122.F (x_,(-4294967296:Int),(4294967296:Int)) = some r3 := hr3
  refine OL (AI f122_in (cV (cQ C122 _ r3 [] false C122_holds hr3 rfl rfl (R3 (K0 ?_)))))
  cases sE q
  refine AI rfl (E4 [] (R3 (AI TV TV)))
 refine OL (cI q (fun q=>?_) (fun q=>?_))
 ·refine OL (OL (cI q (fun q=>?_) (fun q=>?_)))
  ·refine OL ?_
   obtain ⟨r4,hr4,q⟩ := bE q
   refine OL (AI f123_in (cV (cQ C123 x_ r4 [] false C123_holds hr4 rfl rfl (AI rfl (K0 ?_)))))
   cases sE q
   refine AI rfl (E4 [] (R3 (AI TV TV)))
  cases sE q
  refine OL (AI rfl (E4 [] (R3 (AI TV TV))))
 refine OL (cI q (fun q=>?_) (fun q=>?_))
 ·refine OL ?_
  obtain ⟨r5,hr5,q⟩ := bE q
  refine OL (AI f121_in (cV (cQ C121 (2:Int) r5 [] false C121_holds hr5 rfl rfl (AI rfl (K0 ?_)))))
  obtain ⟨r6,hr6,q⟩ := bE q
  refine OL (AI f115_in (cV (cQ C115 (x_,r5) r6 [] false C115_holds hr6 rfl rfl (R2 (K0 ?_)))))
  obtain ⟨r7,hr7,q⟩ := bE q
  refine OL (AI f66_in (cV (cQ C66 (r6,(2147483648:Int)) r7 [] false C66_holds hr7 rfl rfl (R2 (K0 ?_)))))
  obtain ⟨r8,hr8,q⟩ := bE q
  refine OL (AI f122_in (cV (cQ C122 (r7,(0:Int),(4294967296:Int)) r8 [] false C122_holds hr8 rfl rfl (R3 (K0 ?_)))))
  cases sE q
  refine AI rfl (E4 [] (R3 (AI TV TV)))
 cases sE q
 refine OL (AI rfl (E4 [] (R3 (AI TV TV))))
theorem C85_holds : HP C85 85 := hH Tryz.f85 (by kernel_rfl) rfl (fun x y q=>C85_vc x.1 x.2 y q)
theorem f85_in : InP 85 := inP (by kernel_rfl)
def f46_j3 (kind:Int) (t : LI×LI) : Option Bool :=
 bindF (f84 kind) fun r9 =>
 bif (!r9) then
 some true
 else
 bindF (f21 (t.1,t.2)) fun r10 =>
 some (!r10)
def f46_j2 (kind:Int) (t : LI×LI) : Option (Sum Unit Unit) :=
 bindF (f46_j3 kind t) fun z8 =>
 bif z8 then
 some (Sum.inr ())
 else
 some (Sum.inl ())
def f46_l4 (kind:Int) (t : LI×LI) (go : (Int×LI) → Option LI) (v23:Int) (l3 : LI) : Option LI :=
 bif (decide (v23 < (List.length t.2:Int))) then
 guardF (0 ≤ v23 ∧ v23 < (List.length t.2:Int)) <|
 bindF (f85 kind (rd (0:Int) t.2 v23)) fun q7_5 =>
 guardF (0 ≤ v23 ∧ v23 < (List.length l3:Int)) <|
 go ((i64.wrap (v23 + (1:Int))),(List.set l3 (Int.toNat v23) q7_5.1))
 else
 some l3
def f46 (kind:Int) (t : LI×LI) : Option (Int×LI×LI) :=
 bindF (f46_j2 kind t) fun z5 =>
 sumF z5 (fun z5a =>
 bindF (f19 (t.1,t.2)) fun r11 =>
 bindF (loopF (fun go x=>f46_l4 kind t go x.1 x.2) fuelN ((0:Int),r11.2)) fun z12 =>
 some ((0:Int),r11.1,z12)) (fun z5b =>
 some ((1:Int),[],[]))
def C46 : Con where
 X := Int×(LI×LI)
 Y := Int×LI×LI
 e := 0
 args x := [.dat T2 x.1,.dat T3 x.2]
 hin x := []
 F x := f46 x.1 x.2
 ret y := [.raw true [(.osl 0),(.osl 1)],.dat T2 y.1]
 hout y := [(0,.arr 3 T2 y.2.1),(1,.arr 33 T2 y.2.2)]
 nout := 2
theorem C46_vc (kind:Int) (t : LI×LI) (y : Int×LI×LI) (q : f46 kind t = some y) : VC Tryz.f46 C46 (kind,t) y := by
 unfold f46 at q
 refine OL ?_
 obtain ⟨z5,hz5,q⟩ := bE q
 refine OQ ⟨Sum.elim (fun z5a=>[(0,⟨[(0,.dat T2 kind),(3,P0 0 0),(4,P0 1 0)],[(0,.cells [(.d T1 t.1),(.d T1 t.2)]),(1,.cells [N0,N0])],2⟩)]) (fun z5b=>[(1,⟨[(4,P0 0 0),(5,D0 1)],[(0,.cells [N0,N0])],1⟩)]) z5,?_,?_⟩
 ·have q := hz5
  clear hz5
  unfold f46_j2 at q
  obtain ⟨z8,hz8,q⟩ := bE q
  refine OQ ⟨[(0,⟨[(0,.dat T2 kind),(3,P0 0 0),(4,P0 1 0),(16,.dat .bool z8)],[(0,.cells [(.d T1 t.1),(.d T1 t.2)]),(1,.cells [N0,N0])],2⟩)],?_,?_⟩
  ·have q := hz8
   clear hz8
   unfold f46_j3 at q
   obtain ⟨r9,hr9,q⟩ := bE q
   refine OL (AI f84_in (cV (cQ C84 kind r9 [] false C84_holds hr9 rfl rfl (AI rfl (K0 (cN q (fun q=>?_) (fun q=>?_)))))))
   ·refine gY ?_
    obtain ⟨r10,hr10,q⟩ := bE q
    refine OL (AI f21_in (cV (cQ C21 (t.1,t.2) r10 [] false C21_holds hr10 rfl rfl (R2 (K0 (gY (cF ?_)))))))
    cases sE q
    refine E4 I2 (R3 (AI (R2 TV) (R2 TV)))
   refine gN (gN (cT ?_))
   cases sE q
   refine E4 I2 (R3 (AI (R2 TV) (R2 TV)))
  refine AI (cI q (fun q=>?_) (fun q=>?_)) TV
  ·refine OL (OL ?_)
   cases sE q
   refine E4 [(0,some 1)] (R2 (AJ (AI rfl TV)))
  cases sE q
  refine E4 I2 (R2 (AI (R2 TV) (R2 TV)))
 rcases z5 with z5a | z5b
 ·dsimp only [sumF] at q
  refine AI (OL ?_) TV
  obtain ⟨r11,hr11,q⟩ := bE q
  refine OL (AI f19_in (cV (cQ C19 (t.1,t.2) r11 [] false C19_holds hr11 rfl rfl (R2 (K0 (OL (OL (OL ?_))))))))
  obtain ⟨z12,hz12,q⟩ := bE q
  refine lI (Int×LI) LI (fun x=>⟨[(0,.dat T2 kind),(4,P0 0 0),(6,P0 1 0),(21,.dat T1 t.2),(22,.dat T2 (List.length t.2:Int)),(23,.dat T2 x.1)],[(0,.cells [N0,N0]),(1,.cells [(.osl 2),(.osl 3)]),(2,.arr 3 T2 r11.1),(3,.arr 33 T2 x.2)],4⟩) (fun z=>[(2,⟨[(4,P0 0 0),(6,P0 1 0)],[(0,.cells [N0,N0]),(1,.cells [(.osl 2),(.osl 3)]),(2,.arr 3 T2 r11.1),(3,.arr 33 T2 z)],4⟩)]) (loopF (fun go x=>f46_l4 kind t go x.1 x.2)) fuelN ((0:Int),r11.2) z12 (AI hz12 (AI (E4 [(0,some 1),(1,some 4),(2,some 2),(3,some 3)] (R5 (AI (R2 TV) (R4 TV)))) (AI (fun _ _ h=>lZ h) (AI (fun m=>curI (fun v23=>fun l3 z q=>?_)) ?_))))
  ·have q : f46_l4 kind t (loopF (fun go x=>f46_l4 kind t go x.1 x.2) m) v23 l3 = some z := q
   unfold f46_l4 at q
   refine OL (OL (cI q (fun q=>?_) (fun q=>?_)))
   ·refine OL (OL (gI q (fun q=>?_)))
    refine EI (.take 0 (.take 1 (.take 2 (.take 3 (.take 4 (.alt 5 (.take 6 (.take 7 (.take 8 (.take 9 (.alt 10 .done .done))))) .done)))))) (EI [] (EI [] (AI rfl (AI TV ?_))))
    obtain ⟨q7_5,hq7_5,q⟩ := bE q
    refine OL (AI f85_in (cV (cQ C85 (kind,(rd (0:Int) t.2 v23)) q7_5 [] false C85_holds hq7_5 rfl rfl (R2 (K0 (gI q (fun q=>?_)))))))
    refine AI TV (OL (EI ((i64.wrap (v23 + (1:Int))),(List.set l3 (Int.toNat v23) q7_5.1)) (AI q (E4 I4 (R5 (AI (R2 TV) (R4 TV)))))))
   cases sE q
   refine E4 I4 (AI rfl (AI (R2 TV) (R4 TV)))
  refine AI (OL (OL ?_)) TV
  cases sE q
  refine AI rfl (E4 [(0,some 2),(1,some 3)] (R2 (AJ (R2 TV))))
 dsimp only [sumF] at q
 refine AI ?_ TV
 cases sE q
 refine AI rfl (E4 [(0,none),(1,none)] (R2 (AJ (R2 TV))))
theorem C46_holds : HP C46 46 := hH Tryz.f46 (by kernel_rfl) rfl (fun x y q=>C46_vc x.1 x.2 y q)
theorem f46_in : InP 46 := inP (by kernel_rfl)
def f47_j3 (a : LI×LI) (wid:Int) : Option Bool :=
 bif (decide (wid < (1:Int))) then
 some true
 else
 guardF (0 ≤ (1:Int) ∧ (1:Int) < (List.length a.1:Int)) <|
 some (decide (wid > (rd (0:Int) a.1 (1:Int))))
def f47_j2 (a : LI×LI) (wid:Int) : Option (Sum Unit Int) :=
 bindF (f21 (a.1,a.2)) fun r4 =>
 bif (!r4) then
 some (Sum.inr (1:Int))
 else
 bif ((List.length a.1:Int) != (2:Int)) then
 some (Sum.inr (4:Int))
 else
 bindF (f47_j3 a wid) fun z5 =>
 bif z5 then
 some (Sum.inr (1:Int))
 else
 some (Sum.inl ())
def f47_l7 (a : LI×LI) (wid:Int) (v61:Int) (go : (Int×Int) → Option Int) (best:Int) (at_:Int) : Option Int :=
 guardF ((i64.wrap (Int.tdiv (rd (0:Int) a.1 (1:Int)) wid)) ≠ 0) <|
 guardF ((i64.wrap (Int.tdiv (rd (0:Int) a.1 (1:Int)) wid)) ≠ 0) <|
 bif (decide (at_ < (i64.wrap ((i64.wrap ((i64.wrap ((i64.wrap (Int.tdiv v61 (i64.wrap (Int.tdiv (rd (0:Int) a.1 (1:Int)) wid)))) * (rd (0:Int) a.1 (1:Int)))) + (i64.wrap ((Int.tmod v61 (i64.wrap (Int.tdiv (rd (0:Int) a.1 (1:Int)) wid))) * wid)))) + wid)))) then
 guardF (0 ≤ at_ ∧ at_ < (List.length a.2:Int)) <|
 guardF (0 ≤ best ∧ best < (List.length a.2:Int)) <|
 bif (decide ((rd (0:Int) a.2 at_) > (rd (0:Int) a.2 best))) then
 go (at_,(i64.wrap (at_ + (1:Int))))
 else
 go (best,(i64.wrap (at_ + (1:Int))))
 else
 some best
def f47_l6 (a : LI×LI) (wid:Int) (q7_11 : Int×LI×LI) (go : (Int×LI×LI) → Option (LI×LI)) (v61:Int) (l3 : LI) (l5 : LI) : Option (LI×LI) :=
 bif (decide (v61 < (List.length q7_11.2.2:Int))) then
 guardF ((i64.wrap (Int.tdiv (rd (0:Int) a.1 (1:Int)) wid)) ≠ 0) <|
 guardF ((i64.wrap (Int.tdiv (rd (0:Int) a.1 (1:Int)) wid)) ≠ 0) <|
 bindF (loopF (fun go x=>f47_l7 a wid v61 go x.1 x.2) fuelN ((i64.wrap ((i64.wrap ((i64.wrap (Int.tdiv v61 (i64.wrap (Int.tdiv (rd (0:Int) a.1 (1:Int)) wid)))) * (rd (0:Int) a.1 (1:Int)))) + (i64.wrap ((Int.tmod v61 (i64.wrap (Int.tdiv (rd (0:Int) a.1 (1:Int)) wid))) * wid)))),(i64.wrap ((i64.wrap ((i64.wrap ((i64.wrap (Int.tdiv v61 (i64.wrap (Int.tdiv (rd (0:Int) a.1 (1:Int)) wid)))) * (rd (0:Int) a.1 (1:Int)))) + (i64.wrap ((Int.tmod v61 (i64.wrap (Int.tdiv (rd (0:Int) a.1 (1:Int)) wid))) * wid)))) + (1:Int))))) fun z9 =>
 guardF (0 ≤ z9 ∧ z9 < (List.length a.2:Int)) <|
 guardF (0 ≤ v61 ∧ v61 < (List.length l5:Int)) <|
 guardF ((List.length l3 + List.length ([z9])) * 8 ≤ 140737488355328) <|
 go ((i64.wrap (v61 + (1:Int))),(l3 ++ ([z9])),(List.set l5 (Int.toNat v61) (rd (0:Int) a.2 z9)))
 else
 some (l3,l5)
def f47 (a : LI×LI) (wid:Int) : Option (Int×LI×LI×LI) :=
 bindF (f47_j2 a wid) fun z3 =>
 sumF z3 (fun z3a =>
 guardF (0 ≤ (1:Int) ∧ (1:Int) < (List.length a.1:Int)) <|
 guardF (0 ≤ (1:Int) ∧ (1:Int) < (List.length a.1:Int)) <|
 guardF (wid ≠ 0) <|
 guardF (0 ≤ (0:Int) ∧ (0:Int) < (List.length a.1:Int)) <|
 bindF (f74 ([(rd (0:Int) a.1 (0:Int)),(i64.wrap (Int.tdiv (rd (0:Int) a.1 (1:Int)) wid))])) fun q7_11 =>
 bindF (loopF (fun go x=>f47_l6 a wid q7_11 go x.1 x.2.1 x.2.2) fuelN ((0:Int),[],q7_11.2.2)) fun z8 =>
 some ((0:Int),q7_11.2.1,z8.2,z8.1)) (fun z3b =>
 some (z3b,[],[],[]))
def C47 : Con where
 X := (LI×LI)×Int
 Y := Int×LI×LI×LI
 e := 0
 args x := [.dat T3 x.1,.dat T2 x.2]
 hin x := []
 F x := f47 x.1 x.2
 ret y := [.raw true [(.osl 0),(.osl 1)],O0 2,.dat T2 y.1]
 hout y := [(0,.arr 3 T2 y.2.1),(1,.arr 33 T2 y.2.2.1),(2,.arr 3 T2 y.2.2.2)]
 nout := 3
theorem C47_vc (a : LI×LI) (wid:Int) (y : Int×LI×LI×LI) (q : f47 a wid = some y) : VC Tryz.f47 C47 (a,wid) y := by
 unfold f47 at q
 refine OL ?_
 obtain ⟨z3,hz3,q⟩ := bE q
 refine OQ ⟨Sum.elim (fun z3a=>[(0,⟨[(1,.dat T2 wid),(2,P0 0 0),(4,P0 1 0)],[(0,.cells [(.d T1 a.1),(.d T1 a.2)]),(1,.cells [N0,N0])],2⟩)]) (fun z3b=>[(1,⟨[(4,P0 0 0),(5,.raw false [N0]),(6,.dat T2 z3b)],[(0,.cells [N0,N0])],1⟩)]) z3,?_,?_⟩
 ·have q := hz3
  clear hz3
  unfold f47_j2 at q
  refine OL ?_
  obtain ⟨r4,hr4,q⟩ := bE q
  refine OL (AI f21_in (cV (cQ C21 (a.1,a.2) r4 [] false C21_holds hr4 rfl rfl (R2 (K0 (cI q (fun q=>?_) (fun q=>?_)))))))
  ·refine OL (OL ?_)
   cases sE q
   refine E4 [(0,some 1)] (R2 (AI (R2 TV) (AI rfl TV)))
  refine OL (cI q (fun q=>?_) (fun q=>?_))
  ·refine OL (OL ?_)
   cases sE q
   refine E4 [(0,some 1)] (R2 (AI (R2 TV) (AI rfl TV)))
  obtain ⟨z5,hz5,q⟩ := bE q
  refine OQ ⟨[(0,⟨[(1,.dat T2 wid),(2,P0 0 0),(4,P0 1 0),(26,.dat .bool z5)],[(0,.cells [(.d T1 a.1),(.d T1 a.2)]),(1,.cells [N0,N0])],2⟩)],?_,?_⟩
  ·have q := hz5
   clear hz5
   unfold f47_j3 at q
   refine cN q (fun q=>?_) (fun q=>?_)
   ·refine gY (gY (gY (gI q (fun q=>?_))))
    refine gY (gY (cF ?_))
    cases sE q
    refine E4 I2 (R3 (AI (R2 TV) (R2 TV)))
   refine gN (gN (gN (gN (gN (cT ?_)))))
   cases sE q
   refine E4 I2 (R3 (AI (R2 TV) (R2 TV)))
  refine AI (cI q (fun q=>?_) (fun q=>?_)) TV
  ·refine OL (OL ?_)
   cases sE q
   refine E4 [(0,some 1)] (R2 (AI (R2 TV) (AI rfl TV)))
  cases sE q
  refine E4 I2 (R2 (AI (R2 TV) (R2 TV)))
 rcases z3 with z3a | z3b
 ·dsimp only [sumF] at q
  refine AI (OL (EI (.take 0 (.take 1 (.take 2 (.take 3 (.take 4 (.take 5 (.take 6 (.take 7 (.take 8 (.take 9 (.take 10 (.take 11 .done)))))))))))) (EI [] (EI [] (AI rfl (gI q (fun q=>?_))))))) TV
  refine gI q (fun q=>?_)
  refine gI q (fun q=>?_)
  refine OL (gI q (fun q=>?_))
  refine OL ?_
  obtain ⟨q7_11,hq7_11,q⟩ := bE q
  refine OL (AI f74_in (cV (cQ C74 [(rd (0:Int) a.1 (0:Int)),(i64.wrap (Int.tdiv (rd (0:Int) a.1 (1:Int)) wid))] q7_11 [] true C74_holds hq7_11 rfl rfl (AI rfl (AI (fun _=>rfl) (R2 (AI TV (AI TV (OL (OL (OL (OL ?_))))))))))))
  obtain ⟨z8,hz8,q⟩ := bE q
  refine lI (Int×LI×LI) (LI×LI) (fun x=>⟨[(1,.dat T2 wid),(2,P0 0 0),(4,P0 1 0),(7,.dat T2 (rd (0:Int) a.1 (1:Int))),(8,.dat T2 (i64.wrap (Int.tdiv (rd (0:Int) a.1 (1:Int)) wid))),(9,P0 2 0),(11,O0 3),(60,.dat T2 (List.length q7_11.2.2:Int)),(61,.dat T2 x.1)],[(0,.cells [(.d T1 a.1),(.d T1 a.2)]),(1,.cells [N0,N0]),(2,.cells [(.osl 4),(.osl 5)]),(3,.arr 3 T2 x.2.1),(4,.arr 3 T2 q7_11.2.1),(5,.arr 33 T2 x.2.2)],6⟩) (fun z=>[(3,⟨[(4,P0 0 0),(9,P0 1 0),(11,O0 2)],[(0,.cells [N0,N0]),(1,.cells [(.osl 3),(.osl 4)]),(2,.arr 3 T2 z.1),(3,.arr 3 T2 q7_11.2.1),(4,.arr 33 T2 z.2)],5⟩)]) (loopF (fun go x=>f47_l6 a wid q7_11 go x.1 x.2.1 x.2.2)) fuelN ((0:Int),[],q7_11.2.2) z8 (AI hz8 (AI (E4 [(0,some 0),(1,some 1),(2,some 5),(3,none),(4,some 3),(5,some 4)] (R6 (AI (R4 TV) (R6 TV)))) (AI (fun _ _ h=>lZ h) (AI (fun m=>curI (fun v61=>curI (fun l3=>fun l5 z q=>?_))) ?_))))
  ·have q : f47_l6 a wid q7_11 (loopF (fun go x=>f47_l6 a wid q7_11 go x.1 x.2.1 x.2.2) m) v61 l3 l5 = some z := q
   unfold f47_l6 at q
   refine OL (OL (cI q (fun q=>?_) (fun q=>?_)))
   ·refine OL (OL (OL (EI (.take 0 (.take 1 (.take 2 (.take 3 (.take 4 (.take 5 (.take 6 (.take 7 (.take 8 (.take 9 (.take 10 (.take 11 .done)))))))))))) (EI [] (EI [] (AI rfl (gI q (fun q=>?_))))))))
    refine gI q (fun q=>?_)
    refine OL (OL ?_)
    obtain ⟨z9,hz9,q⟩ := bE q
    refine lI (Int×Int) Int (fun x=>⟨[(1,.dat T2 wid),(2,P0 0 0),(4,P0 1 0),(7,.dat T2 (rd (0:Int) a.1 (1:Int))),(8,.dat T2 (i64.wrap (Int.tdiv (rd (0:Int) a.1 (1:Int)) wid))),(9,P0 2 0),(11,O0 3),(12,.dat T2 v61),(13,.dat T2 x.1),(14,.dat T2 x.2),(60,.dat T2 (List.length q7_11.2.2:Int)),(61,.dat T2 v61)],[(0,.cells [(.d T1 a.1),(.d T1 a.2)]),(1,.cells [N0,N0]),(2,.cells [(.osl 4),(.osl 5)]),(3,.arr 3 T2 l3),(4,.arr 3 T2 q7_11.2.1),(5,.arr 33 T2 l5)],6⟩) (fun z=>[(5,⟨[(1,.dat T2 wid),(2,P0 0 0),(4,P0 1 0),(7,.dat T2 (rd (0:Int) a.1 (1:Int))),(8,.dat T2 (i64.wrap (Int.tdiv (rd (0:Int) a.1 (1:Int)) wid))),(9,P0 2 0),(11,O0 3),(12,.dat T2 v61),(13,.dat T2 z),(60,.dat T2 (List.length q7_11.2.2:Int)),(61,.dat T2 v61)],[(0,.cells [(.d T1 a.1),(.d T1 a.2)]),(1,.cells [N0,N0]),(2,.cells [(.osl 4),(.osl 5)]),(3,.arr 3 T2 l3),(4,.arr 3 T2 q7_11.2.1),(5,.arr 33 T2 l5)],6⟩)]) (loopF (fun go x=>f47_l7 a wid v61 go x.1 x.2)) fuelN ((i64.wrap ((i64.wrap ((i64.wrap (Int.tdiv v61 (i64.wrap (Int.tdiv (rd (0:Int) a.1 (1:Int)) wid)))) * (rd (0:Int) a.1 (1:Int)))) + (i64.wrap ((Int.tmod v61 (i64.wrap (Int.tdiv (rd (0:Int) a.1 (1:Int)) wid))) * wid)))),(i64.wrap ((i64.wrap ((i64.wrap ((i64.wrap (Int.tdiv v61 (i64.wrap (Int.tdiv (rd (0:Int) a.1 (1:Int)) wid)))) * (rd (0:Int) a.1 (1:Int)))) + (i64.wrap ((Int.tmod v61 (i64.wrap (Int.tdiv (rd (0:Int) a.1 (1:Int)) wid))) * wid)))) + (1:Int)))) z9 (AI hz9 (AI (E4 I6 (R9 (AI (R4 TV) (R6 TV)))) (AI (fun _ _ h=>lZ h) (AI (fun m=>curI (fun best=>fun at_ z q=>?_)) ?_))))
    ·have q : f47_l7 a wid v61 (loopF (fun go x=>f47_l7 a wid v61 go x.1 x.2) m) best at_ = some z := q
     unfold f47_l7 at q
     refine OL (OL (EI (.take 0 (.take 1 (.take 2 (.take 3 (.take 4 (.take 5 (.take 6 (.take 7 (.take 8 (.take 9 (.take 10 (.take 11 (.take 12 (.take 13 (.take 14 .done))))))))))))))) (EI [] (EI [] (AI rfl (gI q (fun q=>?_)))))))
     refine gI q (fun q=>?_)
     refine cI q (fun q=>?_) (fun q=>?_)
     ·refine OL (OL (EI (.take 0 (.take 1 (.take 2 (.take 3 (.take 4 (.take 5 (.take 6 (.take 7 (.take 8 (.take 9 (.take 10 .done))))))))))) (EI [] (EI [] (AI rfl (gI q (fun q=>?_)))))))
      refine gI q (fun q=>?_)
      refine cI q (fun q=>?_) (fun q=>?_)
      ·refine EI (at_,(i64.wrap (at_ + (1:Int)))) (AI q (E4 I6 (R9 (AI (R4 TV) (R6 TV)))))
      refine EI (best,(i64.wrap (at_ + (1:Int)))) (AI q (E4 I6 (R9 (AI (R4 TV) (R6 TV)))))
     cases sE q
     refine E4 I6 (R8 (AI (R4 TV) (R6 TV)))
    refine AI (OL (EI (.take 0 (.take 1 (.take 2 (.take 3 (.take 4 (.take 5 (.take 6 (.take 7 (.take 8 (.alt 9 .done .done)))))))))) (EI [] (EI [] (AI rfl (gI q (fun q=>?_))))))) TV
    refine gI q (fun q=>?_)
    refine AI TV (OL (OL (OL (gI q (fun q=>?_)))))
    refine EI ((i64.wrap (v61 + (1:Int))),(l3 ++ ([z9])),(List.set l5 (Int.toNat v61) (rd (0:Int) a.2 z9))) (AI q (E4 [(0,some 0),(1,some 1),(2,some 2),(3,some 7),(4,some 4),(5,some 5)] (R6 (AI (R4 TV) (R6 TV)))))
   cases sE q
   refine E4 [(0,some 1),(1,some 2),(2,some 3),(3,some 4),(4,some 5)] (AI rfl (AI (R3 TV) (R5 TV)))
  refine AI (OL (OL ?_)) TV
  cases sE q
  refine AI rfl (E4 [(0,some 3),(1,some 4),(2,some 2)] (R2 (AI (R2 TV) (R3 TV))))
 dsimp only [sumF] at q
 refine AI ?_ TV
 cases sE q
 refine AI rfl (E4 [(0,none),(1,none),(2,none)] (R2 (AI (R2 TV) (R3 TV))))
theorem C47_holds : HP C47 47 := hH Tryz.f47 (by kernel_rfl) rfl (fun x y q=>C47_vc x.1 x.2 y q)
theorem f47_in : InP 47 := inP (by kernel_rfl)
def f48_j3 (a : LI×LI) (d : LI) : Option Bool :=
 bindF (f21 (a.1,a.2)) fun r8 =>
 bif (!r8) then
 some true
 else
 bindF (f33 d) fun r9 =>
 some (!r9)
def f48_j2 (a : LI×LI) (d : LI) : Option (Sum Unit Int) :=
 bindF (f48_j3 a d) fun z7 =>
 bif z7 then
 some (Sum.inr (1:Int))
 else
 bindF (f34 d) fun q3_1 =>
 bif (q3_1 != (List.length a.2:Int)) then
 some (Sum.inr (4:Int))
 else
 some (Sum.inl ())
def f48 (a : LI×LI) (d : LI) : Option (Int×LI×LI) :=
 bindF (f48_j2 a d) fun z5 =>
 sumF z5 (fun z5a =>
 bindF (f31 d) fun q5_1 =>
 bindF (f32 a.2) fun q5_4 =>
 some ((0:Int),q5_1,q5_4)) (fun z5b =>
 some (z5b,[],[]))
def C48 : Con where
 X := (LI×LI)×LI
 Y := Int×LI×LI
 e := 0
 args x := [.dat T3 x.1,.dat T1 x.2]
 hin x := []
 F x := f48 x.1 x.2
 ret y := [.raw true [(.osl 0),(.osl 1)],.dat T2 y.1]
 hout y := [(0,.arr 3 T2 y.2.1),(1,.arr 33 T2 y.2.2)]
 nout := 2
theorem C48_vc (a : LI×LI) (d : LI) (y : Int×LI×LI) (q : f48 a d = some y) : VC Tryz.f48 C48 (a,d) y := by
 unfold f48 at q
 refine OL ?_
 obtain ⟨z5,hz5,q⟩ := bE q
 refine OQ ⟨Sum.elim (fun z5a=>[(0,⟨[(1,.dat T1 d),(2,P0 0 0),(4,P0 1 0)],[(0,.cells [(.d T1 a.1),(.d T1 a.2)]),(1,.cells [N0,N0])],2⟩)]) (fun z5b=>[(1,⟨[(4,P0 0 0),(5,.dat T2 z5b)],[(0,.cells [N0,N0])],1⟩)]) z5,?_,?_⟩
 ·have q := hz5
  clear hz5
  unfold f48_j2 at q
  obtain ⟨z7,hz7,q⟩ := bE q
  refine OQ ⟨[(0,⟨[(1,.dat T1 d),(2,P0 0 0),(4,P0 1 0),(6,.dat .bool z7)],[(0,.cells [(.d T1 a.1),(.d T1 a.2)]),(1,.cells [N0,N0])],2⟩)],?_,?_⟩
  ·have q := hz7
   clear hz7
   unfold f48_j3 at q
   obtain ⟨r8,hr8,q⟩ := bE q
   refine OL (AI f21_in (cV (cQ C21 (a.1,a.2) r8 [] false C21_holds hr8 rfl rfl (R2 (K0 (cN q (fun q=>?_) (fun q=>?_)))))))
   ·refine gY ?_
    obtain ⟨r9,hr9,q⟩ := bE q
    refine OL (AI f33_in (cV (cQ C33 d r9 [] false C33_holds hr9 rfl rfl (AI rfl (K0 (gY (cF ?_)))))))
    cases sE q
    refine E4 I2 (R3 (AI (R2 TV) (R2 TV)))
   refine gN (gN (cT ?_))
   cases sE q
   refine E4 I2 (R3 (AI (R2 TV) (R2 TV)))
  refine AI (cI q (fun q=>?_) (fun q=>?_)) TV
  ·refine OL (OL ?_)
   cases sE q
   refine E4 [(0,some 1)] (R2 (AJ (AI rfl TV)))
  refine OL (EI (.take 0 (.take 2 (.take 3 (.take 4 (.alt 1 (.take 5 (.take 6 .done)) .done))))) (EI [] (EI [] (AI rfl (AI TV ?_)))))
  obtain ⟨q3_1,hq3_1,q⟩ := bE q
  refine OL (AI f34_in (cV (cQ C34 d q3_1 [] false C34_holds hq3_1 rfl rfl (AI rfl (K0 (cI q (fun q=>?_) (fun q=>?_)))))))
  ·refine OL (OL ?_)
   cases sE q
   refine E4 [(0,some 1)] (R2 (AJ (AI rfl TV)))
  cases sE q
  refine E4 I2 (R2 (AI (R2 TV) (R2 TV)))
 rcases z5 with z5a | z5b
 ·dsimp only [sumF] at q
  refine AI (OL (EI (.take 0 (.take 2 (.take 3 (.alt 1 (.alt 4 (.take 5 (.alt 6 (.take 7 .done) .done)) .done) .done)))) (EI [] (EI [] (AI rfl (AI TV ?_)))))) TV
  obtain ⟨q5_1,hq5_1,q⟩ := bE q
  refine OL (AI f31_in (cV (cQ C31 d q5_1 [] false C31_holds hq5_1 rfl rfl (AI rfl (K0 (AI TV ?_))))))
  obtain ⟨q5_4,hq5_4,q⟩ := bE q
  refine OL (AI f32_in (cV (cQ C32 a.2 q5_4 [] false C32_holds hq5_4 rfl rfl (AI rfl (K0 (AI TV (OL ?_)))))))
  cases sE q
  refine AI rfl (E4 [(0,some 2),(1,some 3)] (R2 (AJ (R2 TV))))
 dsimp only [sumF] at q
 refine AI ?_ TV
 cases sE q
 refine AI rfl (E4 [(0,none),(1,none)] (R2 (AJ (R2 TV))))
theorem C48_holds : HP C48 48 := hH Tryz.f48 (by kernel_rfl) rfl (fun x y q=>C48_vc x.1 x.2 y q)
theorem f48_in : InP 48 := inP (by kernel_rfl)
def f26 (op:Int) (a : LI×LI) (k:Int) : Option (Int×LI×LI) :=
 bif (op == (5:Int)) then
 bindF (f40 (a.1,a.2) k) fun r1 =>
 some (r1.1,r1.2.1,r1.2.2)
 else
 bif (op == (7:Int)) then
 bindF (f41 (a.1,a.2)) fun r2 =>
 some (r2.1,r2.2.1,r2.2.2)
 else
 bif (op == (8:Int)) then
 bindF (f42 (a.1,a.2) k) fun r3 =>
 some (r3.1,r3.2.1,r3.2.2)
 else
 bif (op == (9:Int)) then
 bindF (f44 (a.1,a.2)) fun r4 =>
 bindF (f43 r4.1 r4.2) fun r5 =>
 some (r5.1,r5.2.1,r5.2.2)
 else
 bif (op == (10:Int)) then
 bindF (f45 (a.1,a.2)) fun r6 =>
 bindF (f43 r6.1 r6.2) fun r7 =>
 some (r7.1,r7.2.1,r7.2.2)
 else
 bif (op == (11:Int)) then
 bindF (f46 k (a.1,a.2)) fun r8 =>
 some (r8.1,r8.2.1,r8.2.2)
 else
 bif (op == (13:Int)) then
 bindF (f47 (a.1,a.2) k) fun r9 =>
 some (r9.1,r9.2.1,r9.2.2.1)
 else
 bindF (f48 (a.1,a.2) ([(List.length a.2:Int)])) fun r10 =>
 some (r10.1,r10.2.1,r10.2.2)
def C26 : Con where
 X := Int×(LI×LI)×Int
 Y := Int×LI×LI
 e := 0
 args x := [.dat T2 x.1,.dat T3 x.2.1,.dat T2 x.2.2]
 hin x := []
 F x := f26 x.1 x.2.1 x.2.2
 ret y := [.raw true [(.osl 0),(.osl 1)],.dat T2 y.1]
 hout y := [(0,.arr 3 T2 y.2.1),(1,.arr 33 T2 y.2.2)]
 nout := 2
theorem C26_vc (op:Int) (a : LI×LI) (k:Int) (y : Int×LI×LI) (q : f26 op a k = some y) : VC Tryz.f26 C26 (op,a,k) y := by
 unfold f26 at q
 refine OL (OL (OL (OL (cI q (fun q=>?_) (fun q=>?_)))))
 ·refine OL ?_
  obtain ⟨r1,hr1,q⟩ := bE q
  refine OL (AI f40_in (cV (cQ C40 ((a.1,a.2),k) r1 [] false C40_holds hr1 rfl rfl (R3 (K0 (OL ?_))))))
  cases sE q
  refine AI rfl (E4 [(0,some 2),(1,some 3)] (R2 (AJ (R2 TV))))
 refine OL (cI q (fun q=>?_) (fun q=>?_))
 ·refine OL ?_
  obtain ⟨r2,hr2,q⟩ := bE q
  refine OL (AI f41_in (cV (cQ C41 (a.1,a.2) r2 [] false C41_holds hr2 rfl rfl (R2 (K0 (OL ?_))))))
  cases sE q
  refine AI rfl (E4 [(0,some 2),(1,some 3)] (R2 (AJ (R2 TV))))
 refine OL (cI q (fun q=>?_) (fun q=>?_))
 ·refine OL ?_
  obtain ⟨r3,hr3,q⟩ := bE q
  refine OL (AI f42_in (cV (cQ C42 ((a.1,a.2),k) r3 [] false C42_holds hr3 rfl rfl (R3 (K0 (OL ?_))))))
  cases sE q
  refine AI rfl (E4 [(0,some 2),(1,some 3)] (R2 (AJ (R2 TV))))
 refine OL (cI q (fun q=>?_) (fun q=>?_))
 ·refine OL ?_
  obtain ⟨r4,hr4,q⟩ := bE q
  refine OL (AI f44_in (cV (cQ C44 (a.1,a.2) r4 [] false C44_holds hr4 rfl rfl (R2 (K0 ?_)))))
  obtain ⟨r5,hr5,q⟩ := bE q
  refine OL (AI f43_in (cV (cQ C43 (r4.1,r4.2) r5 [] false C43_holds hr5 rfl rfl (R2 (K0 (OL ?_))))))
  cases sE q
  refine AI rfl (E4 [(0,some 2),(1,some 3)] (R2 (AJ (R2 TV))))
 refine OL (cI q (fun q=>?_) (fun q=>?_))
 ·refine OL ?_
  obtain ⟨r6,hr6,q⟩ := bE q
  refine OL (AI f45_in (cV (cQ C45 (a.1,a.2) r6 [] false C45_holds hr6 rfl rfl (R2 (K0 ?_)))))
  obtain ⟨r7,hr7,q⟩ := bE q
  refine OL (AI f43_in (cV (cQ C43 (r6.1,r6.2) r7 [] false C43_holds hr7 rfl rfl (R2 (K0 (OL ?_))))))
  cases sE q
  refine AI rfl (E4 [(0,some 2),(1,some 3)] (R2 (AJ (R2 TV))))
 refine OL (cI q (fun q=>?_) (fun q=>?_))
 ·refine OL ?_
  obtain ⟨r8,hr8,q⟩ := bE q
  refine OL (AI f46_in (cV (cQ C46 (k,(a.1,a.2)) r8 [] false C46_holds hr8 rfl rfl (R3 (K0 (OL ?_))))))
  cases sE q
  refine AI rfl (E4 [(0,some 2),(1,some 3)] (R2 (AJ (R2 TV))))
 refine OL (cI q (fun q=>?_) (fun q=>?_))
 ·refine OL ?_
  obtain ⟨r9,hr9,q⟩ := bE q
  refine OL (AI f47_in (cV (cQ C47 ((a.1,a.2),k) r9 [] false C47_holds hr9 rfl rfl (R3 (K0 (OL (OL (OL ?_))))))))
  cases sE q
  refine AI rfl (E4 [(0,some 2),(1,some 3)] (R2 (AJ (R2 TV))))
 refine OL (OL ?_)
 obtain ⟨r10,hr10,q⟩ := bE q
 refine OL (AI f48_in (cV (cQ C48 ((a.1,a.2),[(List.length a.2:Int)]) r10 [] true C48_holds hr10 rfl rfl (R3 (AI (fun _=>rfl) (R2 (AI TV (AI TV (OL ?_)))))))))
 cases sE q
 refine AI rfl (E4 [(0,some 3),(1,some 4)] (R2 (AJ (R2 TV))))
theorem C26_holds : HP C26 26 := hH Tryz.f26 (by kernel_rfl) rfl (fun x y q=>C26_vc x.1 x.2.1 x.2.2 y q)
theorem f26_in : InP 26 := inP (by kernel_rfl)
def f14_j1 (t_l : NL) (op:Int) (a:Int) (b:Int) : Option (Sum NL (Int×NL)) :=
 bif (decide ((List.length t_l:Int) ≥ (512:Int))) then
 some (Sum.inr ((2:Int),t_l))
 else
 bif (decide (op < (2:Int))) then
 some (Sum.inr ((1:Int),t_l))
 else
 bif (decide (op > (14:Int))) then
 some (Sum.inr ((1:Int),t_l))
 else
 bindF (f18 t_l a) fun r5 =>
 bif (!r5.1) then
 some (Sum.inr ((1:Int),r5.2))
 else
 bindF (f23 op) fun r6 =>
 bif r6 then
 bindF (f18 r5.2 b) fun r7 =>
 bif (!r7.1) then
 some (Sum.inr ((1:Int),r7.2))
 else
 some (Sum.inl r7.2)
 else
 some (Sum.inl r5.2)
def f14_j2 (op:Int) (k:Int) : Option Int :=
 bindF (f24 op) fun r10 =>
 bif r10 then
 some k
 else
 some (0:Int)
def f14_j3 (op:Int) (a:Int) (b:Int) (k:Int) (z4a : NL) : Option (Int×Int×LI×LI) :=
 bindF (f23 op) fun r13 =>
 bif r13 then
 guardF (0 ≤ a ∧ a < (List.length z4a:Int)) <|
 guardF (0 ≤ b ∧ b < (List.length z4a:Int)) <|
 bindF (f25 op ((((((rd (Ty.z T0) z4a a).2).2).2).2).1,(((((rd (Ty.z T0) z4a a).2).2).2).2).2) ((((((rd (Ty.z T0) z4a b).2).2).2).2).1,(((((rd (Ty.z T0) z4a b).2).2).2).2).2) k) fun q11_18 =>
 some (q11_18.1,b,q11_18.2.1,q11_18.2.2)
 else
 guardF (0 ≤ a ∧ a < (List.length z4a:Int)) <|
 bindF (f26 op ((((((rd (Ty.z T0) z4a a).2).2).2).2).1,(((((rd (Ty.z T0) z4a a).2).2).2).2).2) k) fun q11_24 =>
 some (q11_24.1,(-1:Int),q11_24.2.1,q11_24.2.2)
def f14 (t_l : NL) (op:Int) (a:Int) (b:Int) (k:Int) : Option (Int×Int×NL) :=
 bindF (f14_j1 t_l op a b) fun z4 =>
 sumF z4 (fun z4a =>
 bindF (f14_j2 op k) fun z9 =>
 bindF (f14_j3 op a b k z4a) fun z12 =>
 bif (z12.1 != (0:Int)) then
 some ((0:Int),z12.1,z4a)
 else
 bindF (f22 z4a (op,a,z12.2.1,z9,z12.2.2.1,z12.2.2.2)) fun r14 =>
 some (r14.1,(0:Int),r14.2)) (fun z4b =>
 some ((0:Int),z4b.1,z4b.2))
def C14 : Con where
 X := NL×Int×Int×Int×Int
 Y := Int×Int×NL
 e := 2
 args x := [P0 0 0,.dat T2 x.2.1,.dat T2 x.2.2.1,.dat T2 x.2.2.2.1,.dat T2 x.2.2.2.2]
 hin x := [(0,.cells [(.osl 1)]),(1,.arr 39 T0 x.1)]
 F x := f14 x.1 x.2.1 x.2.2.1 x.2.2.2.1 x.2.2.2.2
 ret y := [.dat T2 y.1,.dat T2 y.2.1]
 hout y := [(0,.cells [(.osl 2)]),(2,.arr 39 T0 y.2.2)]
 nout := 3
theorem C14_vc (t_l : NL) (op:Int) (a:Int) (b:Int) (k:Int) (y : Int×Int×NL) (q : f14 t_l op a b k = some y) : VE Tryz.f14 2 C14 (t_l,op,a,b,k) y := by
 unfold f14 at q
 refine OL ?_
 obtain ⟨z4,hz4,q⟩ := bE q
 refine OQ ⟨Sum.elim (fun z4a=>[(0,⟨[(0,P0 0 0),(1,.dat T2 op),(2,.dat T2 a),(3,.dat T2 b),(4,.dat T2 k)],[(0,.cells [(.osl 1)]),(1,.arr 39 T0 z4a)],2⟩)]) (fun z4b=>[(1,⟨[(10,D0 0),(11,.dat T2 z4b.1)],[(0,.cells [(.osl 1)]),(1,.arr 39 T0 z4b.2)],2⟩)]) z4,?_,?_⟩
 ·have q := hz4
  clear hz4
  unfold f14_j1 at q
  refine OL (cI q (fun q=>?_) (fun q=>?_))
  ·cases sE q
   refine OL (E4 I2 (R3 (AI TV (R2 TV))))
  refine OL (cN q (fun q=>?_) (fun q=>?_))
  ·refine gY (cF (cN q (fun q=>?_) (fun q=>?_)))
   ·refine gY (gY ?_)
    obtain ⟨r5,hr5,q⟩ := bE q
    refine OL (AI f18_in (cV (cQ C18 (t_l,a) r5 I2 false C18_holds hr5 rfl rfl (AI rfl (AI NH (R2 (AJ (AI (R2 TV) (gY (cF (cN q (fun q=>?_) (fun q=>?_))))))))))))
    ·refine gY ?_
     obtain ⟨r6,hr6,q⟩ := bE q
     refine OL (AI f23_in (cV (cQ C23 op r6 [] false C23_holds hr6 rfl rfl (AI rfl (K0 (gY (cI q (fun q=>?_) (fun q=>?_))))))))
     ·refine gX (gX ?_)
      obtain ⟨r7,hr7,q⟩ := bE q
      refine OL (AI f18_in (cV (cQ C18 (r5.2,b) r7 I2 false C18_holds hr7 rfl rfl (AI rfl (AI NH (R2 (AJ (AI (R2 TV) (gX (gY (cT (cF (cI q (fun q=>?_) (fun q=>?_))))))))))))))
      ·cases sE q
       refine OL (E4 I2 (R3 (AI TV (R2 TV))))
      cases sE q
      refine E4 I2 (R5 (AJ (R2 TV)))
     refine gM (gM (gM (gY (cF (cF (cF ?_))))))
     cases sE q
     refine E4 I2 (R5 (AJ (R2 TV)))
    refine gN (gN (gN (cT (cT (OL ?_)))))
    cases sE q
    refine E4 I2 (R3 (AI TV (R2 TV)))
   refine gN (gN (gN (cT (gN (gN (gN (gN (cT (cT (OL ?_))))))))))
   cases sE q
   refine E4 I2 (R3 (AI TV (R2 TV)))
  refine gN (cT (gN (gN (gN (gN (cT (gN (gN (gN (gN (cT (cT (OL ?_)))))))))))))
  cases sE q
  refine E4 I2 (R3 (AI TV (R2 TV)))
 rcases z4 with z4a | z4b
 ·dsimp only [sumF] at q
  refine AI (OL (OL ?_)) TV
  obtain ⟨z9,hz9,q⟩ := bE q
  refine OQ ⟨[(0,⟨[(0,P0 0 0),(1,.dat T2 op),(2,.dat T2 a),(3,.dat T2 b),(4,.dat T2 k),(12,P0 2 0)],[(0,.cells [(.osl 1)]),(1,.arr 39 T0 z4a),(2,.cells [(.d T2 op),(.d T2 a),(.d T2 (-1:Int)),(.d T2 z9),N0,N0])],3⟩)],?_,?_⟩
  ·have q := hz9
   clear hz9
   unfold f14_j2 at q
   refine OL ?_
   obtain ⟨r10,hr10,q⟩ := bE q
   refine OL (AI f24_in (cV (cQ C24 op r10 [] false C24_holds hr10 rfl rfl (AI rfl (K0 (cI q (fun q=>?_) (fun q=>?_)))))))
   ·cases sE q
    refine OL (E4 I3 (R5 (AI (R2 TV) (R3 TV))))
   cases sE q
   refine E4 I3 (R5 (AI (R2 TV) (R3 TV)))
  refine AI (OL ?_) TV
  obtain ⟨z12,hz12,q⟩ := bE q
  refine OQ ⟨[(0,⟨[(0,P0 0 0),(12,P0 2 0),(13,.dat T2 z12.1)],[(0,.cells [(.osl 1)]),(1,.arr 39 T0 z4a),(2,.cells [(.d T2 op),(.d T2 a),(.d T2 z12.2.1),(.d T2 z9),(.osl 3),(.osl 4)]),(3,.arr 3 T2 z12.2.2.1),(4,.arr 33 T2 z12.2.2.2)],5⟩)],?_,?_⟩
  ·have q := hz12
   clear hz12
   unfold f14_j3 at q
   refine OL ?_
   obtain ⟨r13,hr13,q⟩ := bE q
   refine OL (AI f23_in (cV (cQ C23 op r13 [] false C23_holds hr13 rfl rfl (AI rfl (K0 (cI q (fun q=>?_) (fun q=>?_)))))))
   ·refine OL (OL (EI (.take 0 (.take 1 (.take 2 (.take 3 (.take 4 (.take 5 (.take 6 (.take 7 (.take 8 (.take 9 (.take 10 (.take 11 (.take 12 (.take 13 (.take 14 (.take 15 (.take 16 (.take 17 (.alt 18 (.take 19 (.take 20 (.take 21 (.take 22 (.alt 23 (.take 24 .done) .done))))) .done))))))))))))))))))) (EI [] (EI [] (AI rfl (gI q (fun q=>?_)))))))
    refine gI q (fun q=>?_)
    refine AI TV ?_
    obtain ⟨q11_18,hq11_18,q⟩ := bE q
    refine OL (AI f25_in (cV (cQ C25 (op,((((((rd (Ty.z T0) z4a a).2).2).2).2).1,(((((rd (Ty.z T0) z4a a).2).2).2).2).2),((((((rd (Ty.z T0) z4a b).2).2).2).2).1,(((((rd (Ty.z T0) z4a b).2).2).2).2).2),k) q11_18 [] false C25_holds hq11_18 rfl rfl (R6 (K0 (AI TV (OL ?_)))))))
    cases sE q
    refine E4 I5 (R2 (AI (R2 TV) (R5 TV)))
   refine gI q (fun q=>?_)
   obtain ⟨q11_24,hq11_24,q⟩ := bE q
   refine OL (AI f26_in (cV (cQ C26 (op,((((((rd (Ty.z T0) z4a a).2).2).2).2).1,(((((rd (Ty.z T0) z4a a).2).2).2).2).2),k) q11_24 [] false C26_holds hq11_24 rfl rfl (R4 (K0 (OL ?_))))))
   cases sE q
   refine E4 I5 (R2 (AI (R2 TV) (R5 TV)))
  refine AI (OL (OL (cI q (fun q=>?_) (fun q=>?_)))) TV
  ·cases sE q
   refine OL (AI rfl (E4 [(0,some 0),(2,some 1)] (R3 (AI TV (R2 TV)))))
  refine OL ?_
  obtain ⟨r14,hr14,q⟩ := bE q
  refine OL (AI f22_in (cV (cQ C22 (z4a,(op,a,z12.2.1,z9,z12.2.2.1,z12.2.2.2)) r14 I2 false C22_holds hr14 rfl rfl (R2 (AI NH (R2 (AJ (AI (R2 TV) ?_))))))))
  cases sE q
  refine AI rfl (E4 [(0,some 0),(2,some 7)] (R3 (AI TV (R2 TV))))
 dsimp only [sumF] at q
 refine AI ?_ TV
 cases sE q
 refine AI rfl (E4 [(0,some 0),(2,some 1)] (R3 (AI TV (R2 TV))))
theorem C14_holds : HP C14 14 := hH Tryz.f14 (by kernel_rfl) rfl (fun x y q=>C14_vc x.1 x.2.1 x.2.2.1 x.2.2.2.1 x.2.2.2.2 y q)
theorem f14_in : InP 14 := inP (by kernel_rfl)
def f8 (t_l : NL) (n:Int) : Option (Int×Int×Int×Int×Bool×LI×LI×NL) :=
 bindF (f18 t_l n) fun r1 =>
 bif (!r1.1) then
 some ((0:Int),(0:Int),(0:Int),(0:Int),false,[],[],r1.2)
 else
 guardF (0 ≤ n ∧ n < (List.length r1.2:Int)) <|
 bindF (f19 ((((((rd (Ty.z T0) r1.2 n).2).2).2).2).1,(((((rd (Ty.z T0) r1.2 n).2).2).2).2).2)) fun r2 =>
 some ((rd (Ty.z T0) r1.2 n).1,((rd (Ty.z T0) r1.2 n).2).1,(((rd (Ty.z T0) r1.2 n).2).2).1,((((rd (Ty.z T0) r1.2 n).2).2).2).1,true,r2.1,r2.2,r1.2)
def C8 : Con where
 X := NL×Int
 Y := Int×Int×Int×Int×Bool×LI×LI×NL
 e := 2
 args x := [P0 0 0,.dat T2 x.2]
 hin x := [(0,.cells [(.osl 1)]),(1,.arr 39 T0 x.1)]
 F x := f8 x.1 x.2
 ret y := [.raw true [(.d T2 y.1),(.d T2 y.2.1),(.d T2 y.2.2.1),(.d T2 y.2.2.2.1),(.osl 2),(.osl 3)],.dat .bool y.2.2.2.2.1]
 hout y := [(0,.cells [(.osl 1)]),(1,.arr 39 T0 y.2.2.2.2.2.2.2),(2,.arr 3 T2 y.2.2.2.2.2.1),(3,.arr 33 T2 y.2.2.2.2.2.2.1)]
 nout := 4
theorem C8_vc (t_l : NL) (n:Int) (y : Int×Int×Int×Int×Bool×LI×LI×NL) (q : f8 t_l n = some y) : VE Tryz.f8 2 C8 (t_l,n) y := by
 unfold f8 at q
 refine OL (OL (OL ?_))
 obtain ⟨r1,hr1,q⟩ := bE q
 refine OL (AI f18_in (cV (cQ C18 (t_l,n) r1 I2 false C18_holds hr1 rfl rfl (AI rfl (AI NH (R2 (AJ (AI (R2 TV) (cI q (fun q=>?_) (fun q=>?_))))))))))
 ·refine OL (OL ?_)
  cases sE q
  refine AI rfl (E4 [(0,some 0),(1,some 1),(2,none),(3,none)] (R2 (AJ (R4 TV))))
 refine OL (gI q (fun q=>?_))
 refine OL (OL ?_)
 obtain ⟨r2,hr2,q⟩ := bE q
 refine OL (AI f19_in (cV (cQ C19 ((((((rd (Ty.z T0) r1.2 n).2).2).2).2).1,(((((rd (Ty.z T0) r1.2 n).2).2).2).2).2) r2 [] false C19_holds hr2 rfl rfl (R2 (K0 (OL (OL (OL ?_))))))))
 cases sE q
 refine AI rfl (E4 [(0,some 0),(1,some 1),(2,some 6),(3,some 7)] (R2 (AJ (R4 TV))))
theorem C8_holds : HP C8 8 := hH Tryz.f8 (by kernel_rfl) rfl (fun x y q=>C8_vc x.1 x.2 y q)
theorem f8_in : InP 8 := inP (by kernel_rfl)
def f9 (t_l : NL) (n:Int) : Option (Bool×LI×LI×NL) :=
 bindF (f8 t_l n) fun r1 =>
 some (r1.2.2.2.2.1,r1.2.2.2.2.2.1,r1.2.2.2.2.2.2.1,r1.2.2.2.2.2.2.2)
def C9 : Con where
 X := NL×Int
 Y := Bool×LI×LI×NL
 e := 2
 args x := [P0 0 0,.dat T2 x.2]
 hin x := [(0,.cells [(.osl 1)]),(1,.arr 39 T0 x.1)]
 F x := f9 x.1 x.2
 ret y := [.raw true [(.osl 2),(.osl 3)],.dat .bool y.1]
 hout y := [(0,.cells [(.osl 1)]),(1,.arr 39 T0 y.2.2.2),(2,.arr 3 T2 y.2.1),(3,.arr 33 T2 y.2.2.1)]
 nout := 4
theorem C9_vc (t_l : NL) (n:Int) (y : Bool×LI×LI×NL) (q : f9 t_l n = some y) : VE Tryz.f9 2 C9 (t_l,n) y := by
 unfold f9 at q
 refine OL (OL ?_)
 obtain ⟨r1,hr1,q⟩ := bE q
 refine OL (AI f8_in (cV (cQ C8 (t_l,n) r1 I2 false C8_holds hr1 rfl rfl (AI rfl (AI NH (R2 (AJ (AI (R2 TV) (OL (OL (OL ?_)))))))))))
 cases sE q
 refine AI rfl (E4 [(0,some 0),(1,some 1),(2,some 5),(3,some 6)] (R2 (AJ (R4 TV))))
theorem C9_holds : HP C9 9 := hH Tryz.f9 (by kernel_rfl) rfl (fun x y q=>C9_vc x.1 x.2 y q)
theorem f9_in : InP 9 := inP (by kernel_rfl)
def f20_l1 (a : LI) (b : LI) (go : Int → Option (Sum Unit Unit)) (i:Int) : Option (Sum Unit Unit) :=
 bif (decide (i < (List.length a:Int))) then
 guardF (0 ≤ i ∧ i < (List.length a:Int)) <|
 guardF (0 ≤ i ∧ i < (List.length b:Int)) <|
 bif ((rd (0:Int) a i) != (rd (0:Int) b i)) then
 some (Sum.inl ())
 else
 go (i64.wrap (i + (1:Int)))
 else
 some (Sum.inr ())
def f20 (a : LI) (b : LI) : Option Bool :=
 bif ((List.length a:Int) != (List.length b:Int)) then
 some false
 else
 bindF (loopF (fun go x=>f20_l1 a b go x) fuelN (0:Int)) fun z1 =>
 sumF z1 (fun z1a =>
 some false) (fun z1b =>
 some true)
def C20 : Con where
 X := LI×LI
 Y := Bool
 e := 0
 args x := [.dat T1 x.1,.dat T1 x.2]
 hin x := []
 F x := f20 x.1 x.2
 ret y := [.dat .bool y]
 hout y := []
 nout := 0
theorem C20_vc (a : LI) (b : LI) (y : Bool) (q : f20 a b = some y) : VC Tryz.f20 C20 (a,b) y := by
 unfold f20 at q
 refine OL (OL (OL (cI q (fun q=>?_) (fun q=>?_))))
 ·cases sE q
  refine OL (AI rfl (E4 [] (R2 (AI TV TV))))
 refine OL (OL ?_)
 obtain ⟨z1,hz1,q⟩ := bE q
 refine lI Int (Sum Unit Unit) (fun x=>⟨[(0,.dat T1 a),(1,.dat T1 b),(5,.dat T2 x)],[],0⟩) (fun z=>Sum.elim (fun za=>[(1,⟨[(4,.dat .bool false)],[],0⟩)]) (fun zb=>[(2,⟨[],[],0⟩)]) z) (loopF (fun go x=>f20_l1 a b go x)) fuelN (0:Int) z1 (AI hz1 (AI (E4 [] (R4 (AI TV TV))) (AI (fun _ _ h=>lZ h) (AI (fun m=>fun i z q=>?_) ?_))))
 ·have q : f20_l1 a b (loopF (fun go x=>f20_l1 a b go x) m) i = some z := q
  unfold f20_l1 at q
  refine OL (OL (cI q (fun q=>?_) (fun q=>?_)))
  ·refine OL (OL (EI (.take 0 (.take 1 (.take 2 (.take 3 (.take 4 (.take 5 (.take 6 (.take 7 (.take 8 .done))))))))) (EI [] (EI [] (AI rfl (gI q (fun q=>?_)))))))
   refine gI q (fun q=>?_)
   refine cI q (fun q=>?_) (fun q=>?_)
   ·cases sE q
    refine OL (E4 [] (R2 (AI TV TV)))
   refine EI (i64.wrap (i + (1:Int))) (AI q (E4 [] (R4 (AI TV TV))))
  cases sE q
  refine E4 [] (AI rfl (AI TV TV))
 rcases z1 with z1a | z1b
 ·dsimp only [sumF] at q
  refine AI ?_ TV
  cases sE q
  refine AI rfl (E4 [] (R2 (AI TV TV)))
 dsimp only [sumF] at q
 refine AI (OL ?_) TV
 cases sE q
 refine AI rfl (E4 [] (R2 (AI TV TV)))
theorem C20_holds : HP C20 20 := hH Tryz.f20 (by kernel_rfl) rfl (fun x y q=>C20_vc x.1 x.2 y q)
theorem f20_in : InP 20 := inP (by kernel_rfl)
def f10_j1 (a : LI×LI) (b : LI×LI) : Option (Sum Unit Unit) :=
 bindF (f20 a.1 b.1) fun r2 =>
 bif (!r2) then
 some (Sum.inr ())
 else
 bif ((List.length a.2:Int) != (List.length b.2:Int)) then
 some (Sum.inr ())
 else
 some (Sum.inl ())
def f10_l2 (a : LI×LI) (b : LI×LI) (go : Int → Option (Sum Unit Unit)) (i:Int) : Option (Sum Unit Unit) :=
 bif (decide (i < (List.length a.2:Int))) then
 guardF (0 ≤ i ∧ i < (List.length a.2:Int)) <|
 guardF (0 ≤ i ∧ i < (List.length b.2:Int)) <|
 bif ((rd (0:Int) a.2 i) != (rd (0:Int) b.2 i)) then
 some (Sum.inl ())
 else
 go (i64.wrap (i + (1:Int)))
 else
 some (Sum.inr ())
def f10 (a : LI×LI) (b : LI×LI) : Option Bool :=
 bindF (f10_j1 a b) fun z1 =>
 sumF z1 (fun z1a =>
 bindF (loopF (fun go x=>f10_l2 a b go x) fuelN (0:Int)) fun z3 =>
 sumF z3 (fun z3a =>
 some false) (fun z3b =>
 some true)) (fun z1b =>
 some false)
def C10 : Con where
 X := (LI×LI)×(LI×LI)
 Y := Bool
 e := 0
 args x := [.dat T3 x.1,.dat T3 x.2]
 hin x := []
 F x := f10 x.1 x.2
 ret y := [.dat .bool y]
 hout y := []
 nout := 0
theorem C10_vc (a : LI×LI) (b : LI×LI) (y : Bool) (q : f10 a b = some y) : VC Tryz.f10 C10 (a,b) y := by
 unfold f10 at q
 refine OL ?_
 obtain ⟨z1,hz1,q⟩ := bE q
 refine OQ ⟨Sum.elim (fun z1a=>[(0,⟨[(2,P0 0 0),(3,P0 1 0)],[(0,.cells [(.d T1 a.1),(.d T1 a.2)]),(1,.cells [(.d T1 b.1),(.d T1 b.2)])],2⟩)]) (fun z1b=>[(1,⟨[(4,.dat .bool false)],[],0⟩)]) z1,?_,?_⟩
 ·have q := hz1
  clear hz1
  unfold f10_j1 at q
  refine OL ?_
  obtain ⟨r2,hr2,q⟩ := bE q
  refine OL (AI f20_in (cV (cQ C20 (a.1,b.1) r2 [] false C20_holds hr2 rfl rfl (R2 (K0 (cN q (fun q=>?_) (fun q=>?_)))))))
  ·refine gY (gY (gY (gY (gY (gY (cF (cI q (fun q=>?_) (fun q=>?_))))))))
   ·cases sE q
    refine OL (E4 [] (R2 (AI TV TV)))
   cases sE q
   refine E4 I2 (AI rfl (AI (R2 TV) (R2 TV)))
  refine gN (gN (gN (gN (gN (gN (cT (cT (OL ?_))))))))
  cases sE q
  refine E4 [] (R2 (AI TV TV))
 rcases z1 with z1a | z1b
 ·dsimp only [sumF] at q
  refine AI (OL (OL ?_)) TV
  obtain ⟨z3,hz3,q⟩ := bE q
  refine lI Int (Sum Unit Unit) (fun x=>⟨[(2,P0 0 0),(3,P0 1 0),(5,.dat T2 x)],[(0,.cells [(.d T1 a.1),(.d T1 a.2)]),(1,.cells [(.d T1 b.1),(.d T1 b.2)])],2⟩) (fun z=>Sum.elim (fun za=>[(1,⟨[(4,.dat .bool false)],[],0⟩)]) (fun zb=>[(2,⟨[],[],0⟩)]) z) (loopF (fun go x=>f10_l2 a b go x)) fuelN (0:Int) z3 (AI hz3 (AI (E4 I2 (R2 (AI (R2 TV) (R2 TV)))) (AI (fun _ _ h=>lZ h) (AI (fun m=>fun i z q=>?_) ?_))))
  ·have q : f10_l2 a b (loopF (fun go x=>f10_l2 a b go x) m) i = some z := q
   unfold f10_l2 at q
   refine OL (OL (cI q (fun q=>?_) (fun q=>?_)))
   ·refine OL (OL (EI (.take 0 (.take 1 (.take 2 (.take 3 (.take 4 (.take 5 (.take 6 (.take 7 (.take 8 (.take 9 (.take 10 .done))))))))))) (EI [] (EI [] (AI rfl (gI q (fun q=>?_)))))))
    refine gI q (fun q=>?_)
    refine cI q (fun q=>?_) (fun q=>?_)
    ·cases sE q
     refine OL (E4 [] (R2 (AI TV TV)))
    refine EI (i64.wrap (i + (1:Int))) (AI q (E4 I2 (R2 (AI (R2 TV) (R2 TV)))))
   cases sE q
   refine E4 [] (AI rfl (AI TV TV))
  rcases z3 with z3a | z3b
  ·dsimp only [sumF] at q
   refine AI ?_ TV
   cases sE q
   refine AI rfl (E4 [] (R2 (AI TV TV)))
  dsimp only [sumF] at q
  refine AI (OL ?_) TV
  cases sE q
  refine AI rfl (E4 [] (R2 (AI TV TV)))
 dsimp only [sumF] at q
 refine AI ?_ TV
 cases sE q
 refine AI rfl (E4 [] (R2 (AI TV TV)))
theorem C10_holds : HP C10 10 := hH Tryz.f10 (by kernel_rfl) rfl (fun x y q=>C10_vc x.1 x.2 y q)
theorem f10_in : InP 10 := inP (by kernel_rfl)
def f7 (t_l : NL) : Option (Int×NL) :=
 some ((List.length t_l:Int),t_l)
def C7 : Con where
 X := NL
 Y := Int×NL
 e := 2
 args x := [P0 0 0]
 hin x := [(0,.cells [(.osl 1)]),(1,.arr 39 T0 x)]
 F x := f7 x
 ret y := [.dat T2 y.1]
 hout y := [(0,.cells [(.osl 1)]),(1,.arr 39 T0 y.2)]
 nout := 2
theorem C7_vc (t_l : NL) (y : Int×NL) (q : f7 t_l = some y) : VE Tryz.f7 2 C7 t_l y := by
 unfold f7 at q
 refine OL (OL ?_)
 cases sE q
 refine AI rfl (E4 I2 (R2 (AI TV (R2 TV))))
theorem C7_holds : HP C7 7 := hH Tryz.f7 (by kernel_rfl) rfl (fun x y q=>C7_vc x y q)
theorem f7_in : InP 7 := inP (by kernel_rfl)
def f4 : Option Bool :=
 bindF (f11) fun q8_36 =>
 bindF (f13 ([(8589934592:Int)])) fun r1 =>
 bindF (f12 ([]) (r1.2,r1.1)) fun r2 =>
 bindF (f13 ([(12884901888:Int)])) fun r3 =>
 bindF (f12 r2.2.2 (r3.2,r3.1)) fun r4 =>
 bindF (f14 r4.2.2 (4:Int) r2.1 r4.1 (0:Int)) fun r5 =>
 bindF (f9 r5.2.2 r5.1) fun r6 =>
 bif (r2.2.1 == (0:Int)) then
 bif (r4.2.1 == (0:Int)) then
 bif (r5.2.1 == (0:Int)) then
 bif (r2.1 == (0:Int)) then
 bif (r4.1 == (1:Int)) then
 bif (r5.1 == (2:Int)) then
 bif r6.1 then
 bindF (f13 ([(25769803776:Int)])) fun q8_28 =>
 bindF (f10 (r6.2.1,r6.2.2.1) (q8_28.2,q8_28.1)) fun q8_29 =>
 bif q8_29 then
 bindF (f7 r6.2.2.2) fun q8_33 =>
 some (q8_33.1 == (3:Int))
 else
 some false
 else
 some false
 else
 some false
 else
 some false
 else
 some false
 else
 some false
 else
 some false
 else
 some false
def C4 : Con where
 X := Unit
 Y := Bool
 e := 0
 args x := []
 hin x := []
 F x := f4
 ret y := [.dat .bool y]
 hout y := []
 nout := 0
theorem C4_vc (y : Bool) (q : f4 = some y) : VC Tryz.f4 C4 () y := by
 unfold f4 at q
 refine OL (OL ?_)
 obtain ⟨q8_36,hq8_36,q⟩ := bE q
 refine OL (AI f11_in (cV (cQ C11 () q8_36 [] false C11_holds hq8_36 rfl rfl (K0 (OL (OL (cF (OL (OL ?_)))))))))
 obtain ⟨r1,hr1,q⟩ := bE q
 refine OL (AI f13_in (cV (cQ C13 [(8589934592:Int)] r1 [] false C13_holds hr1 rfl rfl (AI rfl (K0 ?_)))))
 obtain ⟨r2,hr2,q⟩ := bE q
 refine OL (AI f12_in (cV (cQ C12 ([],(r1.2,r1.1)) r2 I2 false C12_holds hr2 rfl rfl (R2 (AI NH (R2 (AJ (AI (R2 TV) (OL (OL ?_))))))))))
 obtain ⟨r3,hr3,q⟩ := bE q
 refine OL (AI f13_in (cV (cQ C13 [(12884901888:Int)] r3 [] false C13_holds hr3 rfl rfl (AI rfl (K0 ?_)))))
 obtain ⟨r4,hr4,q⟩ := bE q
 refine OL (AI f12_in (cV (cQ C12 (r2.2.2,(r3.2,r3.1)) r4 [(0,some 0),(1,some 6)] false C12_holds hr4 rfl rfl (R2 (AI NH (R2 (AJ (AI (R2 TV) (OL ?_)))))))))
 obtain ⟨r5,hr5,q⟩ := bE q
 refine OL (AI f14_in (cV (cQ C14 (r4.2.2,(4:Int),r2.1,r4.1,(0:Int)) r5 [(0,some 0),(1,some 11)] false C14_holds hr5 rfl rfl (R4 (AI NH (R2 (AJ (AI (R2 TV) (OL ?_)))))))))
 obtain ⟨r6,hr6,q⟩ := bE q
 refine OL (AI f9_in (cV (cQ C9 (r5.2.2,r5.1) r6 [(0,some 0),(1,some 14)] false C9_holds hr6 rfl rfl (AI rfl (AI NH (R2 (AJ (AI (R2 TV) (OL (OL (EI (.take 0 (.take 1 (.take 2 (.take 3 (.take 4 (.take 5 (.take 6 (.take 7 (.take 8 (.take 9 (.take 10 (.take 11 (.take 12 (.take 13 (.take 14 (.take 15 (.take 16 (.take 17 (.take 18 (.take 19 (.take 20 (.take 21 (.take 22 (.take 23 (.take 24 (.take 25 (.take 26 (.alt 27 (.alt 28 (.alt 29 (.take 30 (.take 31 (.take 32 (.alt 33 (.take 34 (.take 35 (.take 36 .done))) .done)))) .done) .done) .done)))))))))))))))))))))))))))) (EI [] (EI [] (AI rfl (cI q (fun q=>?_) (fun q=>?_))))))))))))))))
 ·refine gX (cT (cI q (fun q=>?_) (fun q=>?_)))
  ·refine gX (cT (cI q (fun q=>?_) (fun q=>?_)))
   ·refine gX (cT (cI q (fun q=>?_) (fun q=>?_)))
    ·refine gX (cT (cI q (fun q=>?_) (fun q=>?_)))
     ·refine gX (cT (cI q (fun q=>?_) (fun q=>?_)))
      ·refine cT (cI q (fun q=>?_) (fun q=>?_))
       ·refine AI TV (gX (OL (AI TV (gX ?_))))
        obtain ⟨q8_28,hq8_28,q⟩ := bE q
        refine OL (AI f13_in (cV (cQ C13 [(25769803776:Int)] q8_28 [] false C13_holds hq8_28 rfl rfl (AI rfl (K0 (AI TV (gX ?_)))))))
        obtain ⟨q8_29,hq8_29,q⟩ := bE q
        refine OL (AI f10_in (cV (cQ C10 ((r6.2.1,r6.2.2.1),(q8_28.2,q8_28.1)) q8_29 [] true C10_holds hq8_29 rfl rfl (R4 (AI (fun _=>rfl) (R2 (AI TV (AI TV (cT (cI q (fun q=>?_) (fun q=>?_)))))))))))
        ·refine AI TV (gX ?_)
         obtain ⟨q8_33,hq8_33,q⟩ := bE q
         refine OL (AI f7_in (cV (cQ C7 r6.2.2.2 q8_33 [(0,some 0),(1,some 14)] false C7_holds hq8_33 rfl rfl (AI NH (R2 (AJ (AI (R2 TV) (gX (cT ?_)))))))))
         cases sE q
         refine AI rfl (E4 [] (R2 (AI TV TV)))
        refine AI TV (gM (gM (cF ?_)))
        cases sE q
        refine AI rfl (E4 [] (R2 (AI TV TV)))
       refine AI TV (gM (AI TV (gM (AI TV (gM (cF (gM (AI TV (gM (gM (cF ?_)))))))))))
       cases sE q
       refine AI rfl (E4 [] (R2 (AI TV TV)))
      refine cF (gM (AI TV (gM (AI TV (gM (AI TV (gM (cF (gM (AI TV (gM (gM (cF ?_)))))))))))))
      cases sE q
      refine AI rfl (E4 [] (R2 (AI TV TV)))
     refine gM (cF (gM (cF (gM (AI TV (gM (AI TV (gM (AI TV (gM (cF (gM (AI TV (gM (gM (cF ?_))))))))))))))))
     cases sE q
     refine AI rfl (E4 [] (R2 (AI TV TV)))
    refine gM (cF (gM (gM (cF (gM (cF (gM (AI TV (gM (AI TV (gM (AI TV (gM (cF (gM (AI TV (gM (gM (cF ?_)))))))))))))))))))
    cases sE q
    refine AI rfl (E4 [] (R2 (AI TV TV)))
   refine gM (cF (gM (gM (cF (gM (gM (cF (gM (cF (gM (AI TV (gM (AI TV (gM (AI TV (gM (cF (gM (AI TV (gM (gM (cF ?_))))))))))))))))))))))
   cases sE q
   refine AI rfl (E4 [] (R2 (AI TV TV)))
  refine gM (cF (gM (gM (cF (gM (gM (cF (gM (gM (cF (gM (cF (gM (AI TV (gM (AI TV (gM (AI TV (gM (cF (gM (AI TV (gM (gM (cF ?_)))))))))))))))))))))))))
  cases sE q
  refine AI rfl (E4 [] (R2 (AI TV TV)))
 refine gM (cF (gM (gM (cF (gM (gM (cF (gM (gM (cF (gM (gM (cF (gM (cF (gM (AI TV (gM (AI TV (gM (AI TV (gM (cF (gM (AI TV (gM (gM (cF ?_))))))))))))))))))))))))))))
 cases sE q
 refine AI rfl (E4 [] (R2 (AI TV TV)))
theorem C4_holds : HP C4 4 := hH Tryz.f4 (by kernel_rfl) rfl (fun x y q=>C4_vc y q)
theorem f4_in : InP 4 := inP (by kernel_rfl)
def f5_l1 (l : NL) (go : Int → Option (Sum Unit Unit)) (i:Int) : Option (Sum Unit Unit) :=
 bif (decide (i < (List.length l:Int))) then
 guardF (0 ≤ i ∧ i < (List.length l:Int)) <|
 bif (decide ((List.length ((((((rd (Ty.z T0) l i).2).2).2).2).1):Int) > (10:Int))) then
 some (Sum.inl ())
 else
 guardF (0 ≤ i ∧ i < (List.length l:Int)) <|
 bif (decide ((List.length ((((((rd (Ty.z T0) l i).2).2).2).2).2):Int) > (60:Int))) then
 some (Sum.inl ())
 else
 go (i64.wrap (i + (1:Int)))
 else
 some (Sum.inr ())
def f5 (l : NL) (most:Int) : Option Bool :=
 bif (decide ((List.length l:Int) > most)) then
 some false
 else
 bindF (loopF (fun go x=>f5_l1 l go x) fuelN (0:Int)) fun z1 =>
 sumF z1 (fun z1a =>
 some false) (fun z1b =>
 some true)
def C5 : Con where
 X := NL×Int
 Y := Bool
 e := 0
 args x := [.dat T6 x.1,.dat T2 x.2]
 hin x := []
 F x := f5 x.1 x.2
 ret y := [.dat .bool y]
 hout y := []
 nout := 0
theorem C5_vc (l : NL) (most:Int) (y : Bool) (q : f5 l most = some y) : VC Tryz.f5 C5 (l,most) y := by
 unfold f5 at q
 refine OL (OL (OL (cI q (fun q=>?_) (fun q=>?_))))
 ·cases sE q
  refine OL (AI rfl (E4 [] (R2 (AI TV TV))))
 refine OL (OL ?_)
 obtain ⟨z1,hz1,q⟩ := bE q
 refine lI Int (Sum Unit Unit) (fun x=>⟨[(0,.dat T6 l),(5,.dat T2 x)],[],0⟩) (fun z=>Sum.elim (fun za=>[(1,⟨[(4,.dat .bool false)],[],0⟩)]) (fun zb=>[(2,⟨[],[],0⟩)]) z) (loopF (fun go x=>f5_l1 l go x)) fuelN (0:Int) z1 (AI hz1 (AI (E4 [] (R3 (AI TV TV))) (AI (fun _ _ h=>lZ h) (AI (fun m=>fun i z q=>?_) ?_))))
 ·have q : f5_l1 l (loopF (fun go x=>f5_l1 l go x) m) i = some z := q
  unfold f5_l1 at q
  refine OL (OL (cI q (fun q=>?_) (fun q=>?_)))
  ·refine OL (OL (gI q (fun q=>?_)))
   refine cN q (fun q=>?_) (fun q=>?_)
   ·refine gY (gY (gI q (fun q=>?_)))
    refine gY (gY (gY (gY (gY (cF (cI q (fun q=>?_) (fun q=>?_)))))))
    ·cases sE q
     refine OL (E4 [] (R2 (AI TV TV)))
    refine EI (i64.wrap (i + (1:Int))) (AI q (E4 [] (R3 (AI TV TV))))
   refine gN (gN (gN (gN (gN (gN (gN (cT (cT (OL ?_)))))))))
   cases sE q
   refine E4 [] (R2 (AI TV TV))
  cases sE q
  refine E4 [] (AI rfl (AI TV TV))
 rcases z1 with z1a | z1b
 ·dsimp only [sumF] at q
  refine AI ?_ TV
  cases sE q
  refine AI rfl (E4 [] (R2 (AI TV TV)))
 dsimp only [sumF] at q
 refine AI (OL ?_) TV
 cases sE q
 refine AI rfl (E4 [] (R2 (AI TV TV)))
theorem C5_holds : HP C5 5 := hH Tryz.f5 (by kernel_rfl) rfl (fun x y q=>C5_vc x.1 x.2 y q)
theorem f5_in : InP 5 := inP (by kernel_rfl)
def f49_j4 (d : LI) (i:Int) : Option (Sum Unit Unit) :=
 guardF (0 ≤ i ∧ i < (List.length d:Int)) <|
 bif (decide ((rd (0:Int) d i) < (1:Int))) then
 some (Sum.inr ())
 else
 guardF (0 ≤ i ∧ i < (List.length d:Int)) <|
 bif (decide ((rd (0:Int) d i) > (4096:Int))) then
 some (Sum.inr ())
 else
 some (Sum.inl ())
def f49_l3 (d : LI) (go : (Int×Int) → Option (Sum Unit Unit)) (n:Int) (i:Int) : Option (Sum Unit Unit) :=
 bif (decide (i < (List.length d:Int))) then
 bindF (f49_j4 d i) fun z4 =>
 sumF z4 (fun z4a =>
 guardF (0 ≤ i ∧ i < (List.length d:Int)) <|
 bif (decide ((i64.wrap (n * (rd (0:Int) d i))) > (4096:Int))) then
 some (Sum.inl ())
 else
 go ((i64.wrap (n * (rd (0:Int) d i))),(i64.wrap (i + (1:Int))))) (fun z4b =>
 some (Sum.inl ()))
 else
 some (Sum.inr ())
def f49 (d : LI) : Option Bool :=
 bif (decide ((List.length d:Int) > (4:Int))) then
 some false
 else
 bindF (loopF (fun go x=>f49_l3 d go x.1 x.2) fuelN ((1:Int),(0:Int))) fun z3 =>
 sumF z3 (fun z3a =>
 some false) (fun z3b =>
 some true)
def C49 : Con where
 X := LI
 Y := Bool
 e := 0
 args x := [.dat T1 x]
 hin x := []
 F x := f49 x
 ret y := [.dat .bool y]
 hout y := []
 nout := 0
theorem C49_vc (d : LI) (y : Bool) (q : f49 d = some y) : VC Tryz.f49 C49 d y := by
 unfold f49 at q
 refine OL (OL (OL (cI q (fun q=>?_) (fun q=>?_))))
 ·cases sE q
  refine OL (AI rfl (E4 [] (R2 (AI TV TV))))
 refine OL (OL (OL ?_))
 obtain ⟨z3,hz3,q⟩ := bE q
 refine lI (Int×Int) (Sum Unit Unit) (fun x=>⟨[(0,.dat T1 d),(3,.dat T2 x.1),(4,.dat T2 x.2)],[],0⟩) (fun z=>Sum.elim (fun za=>[(1,⟨[(2,.dat .bool false)],[],0⟩)]) (fun zb=>[(2,⟨[],[],0⟩)]) z) (loopF (fun go x=>f49_l3 d go x.1 x.2)) fuelN ((1:Int),(0:Int)) z3 (AI hz3 (AI (E4 [] (R4 (AI TV TV))) (AI (fun _ _ h=>lZ h) (AI (fun m=>curI (fun n=>fun i z q=>?_)) ?_))))
 ·have q : f49_l3 d (loopF (fun go x=>f49_l3 d go x.1 x.2) m) n i = some z := q
  unfold f49_l3 at q
  refine OL (OL (cI q (fun q=>?_) (fun q=>?_)))
  ·refine OL ?_
   obtain ⟨z4,hz4,q⟩ := bE q
   refine OQ ⟨Sum.elim (fun z4a=>[(0,⟨[(0,.dat T1 d),(3,.dat T2 n),(4,.dat T2 i)],[],0⟩)]) (fun z4b=>[(1,⟨[(2,.dat .bool false)],[],0⟩)]) z4,?_,?_⟩
   ·have q := hz4
    clear hz4
    unfold f49_j4 at q
    refine OL (gI q (fun q=>?_))
    refine cN q (fun q=>?_) (fun q=>?_)
    ·refine gY (gY (gI q (fun q=>?_)))
     refine gY (gY (cF (cI q (fun q=>?_) (fun q=>?_))))
     ·cases sE q
      refine OL (E4 [] (R2 (AI TV TV)))
     cases sE q
     refine E4 [] (R4 (AI TV TV))
    refine gN (gN (gN (gN (cT (cT (OL ?_))))))
    cases sE q
    refine E4 [] (R2 (AI TV TV))
   rcases z4 with z4a | z4b
   ·dsimp only [sumF] at q
    refine AI (OL (gI q (fun q=>?_))) TV
    refine OL (cI q (fun q=>?_) (fun q=>?_))
    ·cases sE q
     refine OL (E4 [] (R2 (AI TV TV)))
    refine EI ((i64.wrap (n * (rd (0:Int) d i))),(i64.wrap (i + (1:Int)))) (AI q (E4 [] (R4 (AI TV TV))))
   dsimp only [sumF] at q
   refine AI ?_ TV
   cases sE q
   refine E4 [] (R2 (AI TV TV))
  cases sE q
  refine E4 [] (AI rfl (AI TV TV))
 rcases z3 with z3a | z3b
 ·dsimp only [sumF] at q
  refine AI ?_ TV
  cases sE q
  refine AI rfl (E4 [] (R2 (AI TV TV)))
 dsimp only [sumF] at q
 refine AI (OL ?_) TV
 cases sE q
 refine AI rfl (E4 [] (R2 (AI TV TV)))
theorem C49_holds : HP C49 49 := hH Tryz.f49 (by kernel_rfl) rfl (fun x y q=>C49_vc x y q)
theorem f49_in : InP 49 := inP (by kernel_rfl)
def f50_l1 (d : LI) (go : (Int×Int) → Option Int) (n:Int) (i:Int) : Option Int :=
 bif (decide (i < (List.length d:Int))) then
 guardF (0 ≤ i ∧ i < (List.length d:Int)) <|
 go ((i64.wrap (n * (rd (0:Int) d i))),(i64.wrap (i + (1:Int))))
 else
 some n
def f50 (d : LI) : Option Int :=
 bindF (f49 d) fun r1 =>
 bif (!r1) then
 some (0:Int)
 else
 bindF (loopF (fun go x=>f50_l1 d go x.1 x.2) fuelN ((1:Int),(0:Int))) fun z2 =>
 some z2
def C50 : Con where
 X := LI
 Y := Int
 e := 0
 args x := [.dat T1 x]
 hin x := []
 F x := f50 x
 ret y := [.dat T2 y]
 hout y := []
 nout := 0
theorem C50_vc (d : LI) (y:Int) (q : f50 d = some y) : VC Tryz.f50 C50 d y := by
 unfold f50 at q
 refine OL (OL (OL ?_))
 obtain ⟨r1,hr1,q⟩ := bE q
 refine OL (AI f49_in (cV (cQ C49 d r1 [] false C49_holds hr1 rfl rfl (AI rfl (K0 (cI q (fun q=>?_) (fun q=>?_)))))))
 ·cases sE q
  refine OL (AI rfl (E4 [] (R2 (AI TV TV))))
 refine OL (OL (OL ?_))
 obtain ⟨z2,hz2,q⟩ := bE q
 refine lI (Int×Int) Int (fun x=>⟨[(0,.dat T1 d),(3,.dat T2 x.1),(4,.dat T2 x.2)],[],0⟩) (fun z=>[(2,⟨[(3,.dat T2 z)],[],0⟩)]) (loopF (fun go x=>f50_l1 d go x.1 x.2)) fuelN ((1:Int),(0:Int)) z2 (AI hz2 (AI (E4 [] (R4 (AI TV TV))) (AI (fun _ _ h=>lZ h) (AI (fun m=>curI (fun n=>fun i z q=>?_)) ?_))))
 ·have q : f50_l1 d (loopF (fun go x=>f50_l1 d go x.1 x.2) m) n i = some z := q
  unfold f50_l1 at q
  refine OL (OL (cI q (fun q=>?_) (fun q=>?_)))
  ·refine OL (gI q (fun q=>?_))
   refine EI ((i64.wrap (n * (rd (0:Int) d i))),(i64.wrap (i + (1:Int)))) (AI q (E4 [] (R4 (AI TV TV))))
  cases sE q
  refine E4 [] (R2 (AI TV TV))
 refine AI (OL ?_) TV
 cases sE q
 refine AI rfl (E4 [] (R2 (AI TV TV)))
theorem C50_holds : HP C50 50 := hH Tryz.f50 (by kernel_rfl) rfl (fun x y q=>C50_vc x y q)
theorem f50_in : InP 50 := inP (by kernel_rfl)
end Go.Proofs
