/-
  No cell of these rows narrows 'for every input' (looked for: loops, veiled, ifaces, maps, wideKeys, modest, calm, conditions, laid).
  DERIVED. THE GIVEN ROWS OF THIS SEAT. 9 by the template 'for every input the law returns true; each argument reads behind the call as it read before'; 0 by the template 'total and deterministic' (their statements: YtlgiakkejlbbfaaGreatTotals.lean).
  GIVEN WITH THE SEED: the statements are not yours to turn. If you find one false, say at which input.
  Laid BY PROGRAM, IN A SANDBOX (cutbox-rows.mjs): the forced cells as the released guide's own fill.sh prints them over the translation 11d526e8c3755e0c… (all of the seat's roots in one cut). By AI agents, Wed Nov 11 2026. No macro, syntax, notation, axiom, sorry.
-/
import Derived.Test.YtlgiakkejlbbfaaGreatChecked
import GoSem.Claim
import GoSem.ClaimJoined
import GoSem.ClaimMapViews
import Derived.JoinedTies
import Derived.KernelRfl
namespace Go.Proofs.YtlgiakkejlbbfaaGreat
/- THE CELL 'sum', in the pinned program and in every row, IS THE sha256 OF THE DUMP (.gsa) THAT YtlgiakkejlbbfaaGreatProg.lean LOADS. Nothing in Lean hashes anything: it is a label: what it is worth is what the hold of that sum in a sandbox is worth. -/
noncomputable def Tryz.pinned : Pinned := { name := "ytlgiakkejlbbfaagreat", sum := "11d526e8c3755e0c005f3b65a1c5dca3310c9014a97d6c127e87628ff0893ac1", checked := Tryz.checked }
namespace Rows
def none {H : Type} : Left H := { results := [], args := [] }

/-- 'carousellaw11.BackKnown': WHATEVER THE INPUT: true; the input reads as it did. -/
def backKnownSpec : ChangeSpec := { name := "backKnown", fn := fun _ => fun
  | [] => { results := [.lit (.bool true)], args := [] }
  | _ => none }
def backKnownRow : OpenClaim := { program := "ytlgiakkejlbbfaagreat", sum := "11d526e8c3755e0c005f3b65a1c5dca3310c9014a97d6c127e87628ff0893ac1", func := "carousel/carousellaw11.BackKnown", spec := "backKnown", inPlace := ["math/bits.Add64", "math/bits.Sub64"], unfollowed := true, recurses := true, named := ["math/bits.divideError", "math/bits.overflowError"], apart := false }
def BackKnownSaid : Prop := backKnownRow.holds Tryz.pinned (OpenSpec.ofChange backKnownSpec)

/-- ITS FALSE NEIGHBOUR: 'it returns false'. Refute it at one input. -/
def backKnownWrong : ChangeSpec := { name := "backKnown", fn := fun _ => fun
  | [] => { results := [.lit (.bool false)], args := [] }
  | _ => none }
def BackKnownWrongFalsely : Prop := backKnownRow.holds Tryz.pinned (OpenSpec.ofChange backKnownWrong)

/-- 'carousellaw11.BackSweeps': WHATEVER THE INPUT: true; the input reads as it did. -/
def backSweepsSpec : ChangeSpec := { name := "backSweeps", fn := fun _ => fun
  | [d1, d2] => { results := [.lit (.bool true)], args := [d1, d2] }
  | _ => none }
def backSweepsRow : OpenClaim := { program := "ytlgiakkejlbbfaagreat", sum := "11d526e8c3755e0c005f3b65a1c5dca3310c9014a97d6c127e87628ff0893ac1", func := "carousel/carousellaw11.BackSweeps", spec := "backSweeps", inPlace := ["math/bits.Add64", "math/bits.Sub64"], unfollowed := true, recurses := true, named := ["math/bits.divideError", "math/bits.overflowError"], apart := false }
def BackSweepsSaid : Prop := backSweepsRow.holds Tryz.pinned (OpenSpec.ofChange backSweepsSpec)

/-- ITS FALSE NEIGHBOUR: 'it returns false'. Refute it at one input. -/
def backSweepsWrong : ChangeSpec := { name := "backSweeps", fn := fun _ => fun
  | [d1, d2] => { results := [.lit (.bool false)], args := [d1, d2] }
  | _ => none }
def BackSweepsWrongFalsely : Prop := backSweepsRow.holds Tryz.pinned (OpenSpec.ofChange backSweepsWrong)

/-- 'carousellaw11.BackOnes': WHATEVER THE INPUT: true; the input reads as it did. -/
def backOnesSpec : ChangeSpec := { name := "backOnes", fn := fun _ => fun
  | [d1, d2, d3, d4] => { results := [.lit (.bool true)], args := [d1, d2, d3, d4] }
  | _ => none }
def backOnesRow : OpenClaim := { program := "ytlgiakkejlbbfaagreat", sum := "11d526e8c3755e0c005f3b65a1c5dca3310c9014a97d6c127e87628ff0893ac1", func := "carousel/carousellaw11.BackOnes", spec := "backOnes", inPlace := ["math/bits.Add64", "math/bits.Sub64"], unfollowed := true, recurses := true, named := ["math/bits.divideError", "math/bits.overflowError"], apart := false }
def BackOnesSaid : Prop := backOnesRow.holds Tryz.pinned (OpenSpec.ofChange backOnesSpec)

/-- ITS FALSE NEIGHBOUR: 'it returns false'. Refute it at one input. -/
def backOnesWrong : ChangeSpec := { name := "backOnes", fn := fun _ => fun
  | [d1, d2, d3, d4] => { results := [.lit (.bool false)], args := [d1, d2, d3, d4] }
  | _ => none }
def BackOnesWrongFalsely : Prop := backOnesRow.holds Tryz.pinned (OpenSpec.ofChange backOnesWrong)

/-- 'carousellaw11.BackLines': WHATEVER THE INPUT: true; the input reads as it did. -/
def backLinesSpec : ChangeSpec := { name := "backLines", fn := fun _ => fun
  | [d1, d2] => { results := [.lit (.bool true)], args := [d1, d2] }
  | _ => none }
def backLinesRow : OpenClaim := { program := "ytlgiakkejlbbfaagreat", sum := "11d526e8c3755e0c005f3b65a1c5dca3310c9014a97d6c127e87628ff0893ac1", func := "carousel/carousellaw11.BackLines", spec := "backLines", inPlace := ["math/bits.Add64", "math/bits.Sub64"], unfollowed := true, recurses := true, named := ["math/bits.divideError", "math/bits.overflowError"], apart := false }
def BackLinesSaid : Prop := backLinesRow.holds Tryz.pinned (OpenSpec.ofChange backLinesSpec)

/-- ITS FALSE NEIGHBOUR: 'it returns false'. Refute it at one input. -/
def backLinesWrong : ChangeSpec := { name := "backLines", fn := fun _ => fun
  | [d1, d2] => { results := [.lit (.bool false)], args := [d1, d2] }
  | _ => none }
def BackLinesWrongFalsely : Prop := backLinesRow.holds Tryz.pinned (OpenSpec.ofChange backLinesWrong)

/-- 'carousellaw11.BackAdds': WHATEVER THE INPUT: true; the input reads as it did. -/
def backAddsSpec : ChangeSpec := { name := "backAdds", fn := fun _ => fun
  | [d1, d2, d3] => { results := [.lit (.bool true)], args := [d1, d2, d3] }
  | _ => none }
def backAddsRow : OpenClaim := { program := "ytlgiakkejlbbfaagreat", sum := "11d526e8c3755e0c005f3b65a1c5dca3310c9014a97d6c127e87628ff0893ac1", func := "carousel/carousellaw11.BackAdds", spec := "backAdds", inPlace := ["math/bits.Add64", "math/bits.Sub64"], unfollowed := true, recurses := true, named := ["math/bits.divideError", "math/bits.overflowError"], apart := false }
def BackAddsSaid : Prop := backAddsRow.holds Tryz.pinned (OpenSpec.ofChange backAddsSpec)

/-- ITS FALSE NEIGHBOUR: 'it returns false'. Refute it at one input. -/
def backAddsWrong : ChangeSpec := { name := "backAdds", fn := fun _ => fun
  | [d1, d2, d3] => { results := [.lit (.bool false)], args := [d1, d2, d3] }
  | _ => none }
def BackAddsWrongFalsely : Prop := backAddsRow.holds Tryz.pinned (OpenSpec.ofChange backAddsWrong)

/-- 'carousellaw11.BackSteep': WHATEVER THE INPUT: true; the input reads as it did. -/
def backSteepSpec : ChangeSpec := { name := "backSteep", fn := fun _ => fun
  | [d1, d2, d3] => { results := [.lit (.bool true)], args := [d1, d2, d3] }
  | _ => none }
def backSteepRow : OpenClaim := { program := "ytlgiakkejlbbfaagreat", sum := "11d526e8c3755e0c005f3b65a1c5dca3310c9014a97d6c127e87628ff0893ac1", func := "carousel/carousellaw11.BackSteep", spec := "backSteep", inPlace := ["math/bits.Add64", "math/bits.Sub64"], unfollowed := true, recurses := true, named := ["math/bits.divideError", "math/bits.overflowError"], apart := false }
def BackSteepSaid : Prop := backSteepRow.holds Tryz.pinned (OpenSpec.ofChange backSteepSpec)

/-- ITS FALSE NEIGHBOUR: 'it returns false'. Refute it at one input. -/
def backSteepWrong : ChangeSpec := { name := "backSteep", fn := fun _ => fun
  | [d1, d2, d3] => { results := [.lit (.bool false)], args := [d1, d2, d3] }
  | _ => none }
def BackSteepWrongFalsely : Prop := backSteepRow.holds Tryz.pinned (OpenSpec.ofChange backSteepWrong)

/-- 'carousellaw11.BackChain': WHATEVER THE INPUT: true; the input reads as it did. -/
def backChainSpec : ChangeSpec := { name := "backChain", fn := fun _ => fun
  | [d1, d2] => { results := [.lit (.bool true)], args := [d1, d2] }
  | _ => none }
def backChainRow : OpenClaim := { program := "ytlgiakkejlbbfaagreat", sum := "11d526e8c3755e0c005f3b65a1c5dca3310c9014a97d6c127e87628ff0893ac1", func := "carousel/carousellaw11.BackChain", spec := "backChain", inPlace := ["math/bits.Add64", "math/bits.Sub64"], unfollowed := true, recurses := true, named := ["math/bits.divideError", "math/bits.overflowError"], apart := false }
def BackChainSaid : Prop := backChainRow.holds Tryz.pinned (OpenSpec.ofChange backChainSpec)

/-- ITS FALSE NEIGHBOUR: 'it returns false'. Refute it at one input. -/
def backChainWrong : ChangeSpec := { name := "backChain", fn := fun _ => fun
  | [d1, d2] => { results := [.lit (.bool false)], args := [d1, d2] }
  | _ => none }
def BackChainWrongFalsely : Prop := backChainRow.holds Tryz.pinned (OpenSpec.ofChange backChainWrong)

/-- 'carousellaw11.BackTwice': WHATEVER THE INPUT: true; the input reads as it did. -/
def backTwiceSpec : ChangeSpec := { name := "backTwice", fn := fun _ => fun
  | [d1, d2] => { results := [.lit (.bool true)], args := [d1, d2] }
  | _ => none }
def backTwiceRow : OpenClaim := { program := "ytlgiakkejlbbfaagreat", sum := "11d526e8c3755e0c005f3b65a1c5dca3310c9014a97d6c127e87628ff0893ac1", func := "carousel/carousellaw11.BackTwice", spec := "backTwice", inPlace := ["math/bits.Add64", "math/bits.Sub64"], unfollowed := true, recurses := true, named := ["math/bits.divideError", "math/bits.overflowError"], apart := false }
def BackTwiceSaid : Prop := backTwiceRow.holds Tryz.pinned (OpenSpec.ofChange backTwiceSpec)

/-- ITS FALSE NEIGHBOUR: 'it returns false'. Refute it at one input. -/
def backTwiceWrong : ChangeSpec := { name := "backTwice", fn := fun _ => fun
  | [d1, d2] => { results := [.lit (.bool false)], args := [d1, d2] }
  | _ => none }
def BackTwiceWrongFalsely : Prop := backTwiceRow.holds Tryz.pinned (OpenSpec.ofChange backTwiceWrong)

/-- 'carousellaw13.LossNone': WHATEVER THE INPUT: true; the input reads as it did. -/
def lossNoneSpec : ChangeSpec := { name := "lossNone", fn := fun _ => fun
  | [d] => { results := [.lit (.bool true)], args := [d] }
  | _ => none }
def lossNoneRow : OpenClaim := { program := "ytlgiakkejlbbfaagreat", sum := "11d526e8c3755e0c005f3b65a1c5dca3310c9014a97d6c127e87628ff0893ac1", func := "carousel/carousellaw13.LossNone", spec := "lossNone", inPlace := ["math/bits.Add64", "math/bits.Sub64"], unfollowed := true, recurses := true, named := ["math/bits.divideError", "math/bits.overflowError"], apart := false }
def LossNoneSaid : Prop := lossNoneRow.holds Tryz.pinned (OpenSpec.ofChange lossNoneSpec)

/-- ITS FALSE NEIGHBOUR: 'it returns false'. Refute it at one input. -/
def lossNoneWrong : ChangeSpec := { name := "lossNone", fn := fun _ => fun
  | [d] => { results := [.lit (.bool false)], args := [d] }
  | _ => none }
def LossNoneWrongFalsely : Prop := lossNoneRow.holds Tryz.pinned (OpenSpec.ofChange lossNoneWrong)

/- THE SECOND FORM. 'bulk': how many values and letters a reading holds, each counted each time it is reached (what is shared counts as often as it is met; a slice's spare places count too). A statement '..UptoSaid' is the law's where the arguments, and the package variables that the reading takes, are together of bulk at most 1048576: NARROWER than '..Said'. Prove '..Said' where nothing that the law and all that it calls make is longer than what came in: it says more and counts as full. Else prove '..UptoSaid'. A law counts once. -/
mutual
def uptoBulk {H : Type} : DataW H → Nat
  | .lit (.string bytes) => bytes.length + 1
  | .lit _ => 1
  | .nil => 1
  | .ptr d => uptoBulk d + 1
  | .slice elems spare => uptoBulkAll elems + uptoBulkAll spare + 1
  | .agg parts => uptoBulkAll parts + 1
  | .iface _ d => uptoBulk d + 1
  | .map entries => uptoBulkEntries entries + 1
  | .held _ => 1
def uptoBulkAll {H : Type} : List (DataW H) → Nat
  | [] => 0
  | d :: r => uptoBulk d + uptoBulkAll r
def uptoBulkEntries {H : Type} : List (Lit × DataW H) → Nat
  | [] => 0
  | x :: r => uptoBulkEntry x + uptoBulkEntries r
def uptoBulkEntry {H : Type} : Lit × DataW H → Nat
  | (.string bytes, d) => bytes.length + uptoBulk d + 1
  | (_, d) => uptoBulk d + 1
 end
def uptoSmall : (H : Type) → List (DataW H) → Bool := fun _ ds => decide (uptoBulkAll ds ≤ 1048576)
def OpenSpec.upto (s : _root_.Go.ChangeSpec) : _root_.Go.OpenSpec := { _root_.Go.OpenSpec.ofChange s with cond := some uptoSmall }

/-- 'carousellaw11.BackKnown', WHERE WHAT IT READS IS OF BULK AT MOST 1048576: true; the input reads as it did. -/
def backKnownUptoRow : OpenClaim := { program := "ytlgiakkejlbbfaagreat", sum := "11d526e8c3755e0c005f3b65a1c5dca3310c9014a97d6c127e87628ff0893ac1", func := "carousel/carousellaw11.BackKnown", spec := "backKnown", inPlace := ["math/bits.Add64", "math/bits.Sub64"], unfollowed := true, recurses := true, named := ["math/bits.divideError", "math/bits.overflowError"], apart := false, narrowed := true }
def BackKnownUptoSaid : Prop := backKnownUptoRow.holds Tryz.pinned (OpenSpec.upto backKnownSpec)

/-- 'carousellaw11.BackSweeps', WHERE WHAT IT READS IS OF BULK AT MOST 1048576: true; the input reads as it did. -/
def backSweepsUptoRow : OpenClaim := { program := "ytlgiakkejlbbfaagreat", sum := "11d526e8c3755e0c005f3b65a1c5dca3310c9014a97d6c127e87628ff0893ac1", func := "carousel/carousellaw11.BackSweeps", spec := "backSweeps", inPlace := ["math/bits.Add64", "math/bits.Sub64"], unfollowed := true, recurses := true, named := ["math/bits.divideError", "math/bits.overflowError"], apart := false, narrowed := true }
def BackSweepsUptoSaid : Prop := backSweepsUptoRow.holds Tryz.pinned (OpenSpec.upto backSweepsSpec)

/-- 'carousellaw11.BackOnes', WHERE WHAT IT READS IS OF BULK AT MOST 1048576: true; the input reads as it did. -/
def backOnesUptoRow : OpenClaim := { program := "ytlgiakkejlbbfaagreat", sum := "11d526e8c3755e0c005f3b65a1c5dca3310c9014a97d6c127e87628ff0893ac1", func := "carousel/carousellaw11.BackOnes", spec := "backOnes", inPlace := ["math/bits.Add64", "math/bits.Sub64"], unfollowed := true, recurses := true, named := ["math/bits.divideError", "math/bits.overflowError"], apart := false, narrowed := true }
def BackOnesUptoSaid : Prop := backOnesUptoRow.holds Tryz.pinned (OpenSpec.upto backOnesSpec)

/-- 'carousellaw11.BackLines', WHERE WHAT IT READS IS OF BULK AT MOST 1048576: true; the input reads as it did. -/
def backLinesUptoRow : OpenClaim := { program := "ytlgiakkejlbbfaagreat", sum := "11d526e8c3755e0c005f3b65a1c5dca3310c9014a97d6c127e87628ff0893ac1", func := "carousel/carousellaw11.BackLines", spec := "backLines", inPlace := ["math/bits.Add64", "math/bits.Sub64"], unfollowed := true, recurses := true, named := ["math/bits.divideError", "math/bits.overflowError"], apart := false, narrowed := true }
def BackLinesUptoSaid : Prop := backLinesUptoRow.holds Tryz.pinned (OpenSpec.upto backLinesSpec)

/-- 'carousellaw11.BackAdds', WHERE WHAT IT READS IS OF BULK AT MOST 1048576: true; the input reads as it did. -/
def backAddsUptoRow : OpenClaim := { program := "ytlgiakkejlbbfaagreat", sum := "11d526e8c3755e0c005f3b65a1c5dca3310c9014a97d6c127e87628ff0893ac1", func := "carousel/carousellaw11.BackAdds", spec := "backAdds", inPlace := ["math/bits.Add64", "math/bits.Sub64"], unfollowed := true, recurses := true, named := ["math/bits.divideError", "math/bits.overflowError"], apart := false, narrowed := true }
def BackAddsUptoSaid : Prop := backAddsUptoRow.holds Tryz.pinned (OpenSpec.upto backAddsSpec)

/-- 'carousellaw11.BackSteep', WHERE WHAT IT READS IS OF BULK AT MOST 1048576: true; the input reads as it did. -/
def backSteepUptoRow : OpenClaim := { program := "ytlgiakkejlbbfaagreat", sum := "11d526e8c3755e0c005f3b65a1c5dca3310c9014a97d6c127e87628ff0893ac1", func := "carousel/carousellaw11.BackSteep", spec := "backSteep", inPlace := ["math/bits.Add64", "math/bits.Sub64"], unfollowed := true, recurses := true, named := ["math/bits.divideError", "math/bits.overflowError"], apart := false, narrowed := true }
def BackSteepUptoSaid : Prop := backSteepUptoRow.holds Tryz.pinned (OpenSpec.upto backSteepSpec)

/-- 'carousellaw11.BackChain', WHERE WHAT IT READS IS OF BULK AT MOST 1048576: true; the input reads as it did. -/
def backChainUptoRow : OpenClaim := { program := "ytlgiakkejlbbfaagreat", sum := "11d526e8c3755e0c005f3b65a1c5dca3310c9014a97d6c127e87628ff0893ac1", func := "carousel/carousellaw11.BackChain", spec := "backChain", inPlace := ["math/bits.Add64", "math/bits.Sub64"], unfollowed := true, recurses := true, named := ["math/bits.divideError", "math/bits.overflowError"], apart := false, narrowed := true }
def BackChainUptoSaid : Prop := backChainUptoRow.holds Tryz.pinned (OpenSpec.upto backChainSpec)

/-- 'carousellaw11.BackTwice', WHERE WHAT IT READS IS OF BULK AT MOST 1048576: true; the input reads as it did. -/
def backTwiceUptoRow : OpenClaim := { program := "ytlgiakkejlbbfaagreat", sum := "11d526e8c3755e0c005f3b65a1c5dca3310c9014a97d6c127e87628ff0893ac1", func := "carousel/carousellaw11.BackTwice", spec := "backTwice", inPlace := ["math/bits.Add64", "math/bits.Sub64"], unfollowed := true, recurses := true, named := ["math/bits.divideError", "math/bits.overflowError"], apart := false, narrowed := true }
def BackTwiceUptoSaid : Prop := backTwiceUptoRow.holds Tryz.pinned (OpenSpec.upto backTwiceSpec)

/-- 'carousellaw13.LossNone', WHERE WHAT IT READS IS OF BULK AT MOST 1048576: true; the input reads as it did. -/
def lossNoneUptoRow : OpenClaim := { program := "ytlgiakkejlbbfaagreat", sum := "11d526e8c3755e0c005f3b65a1c5dca3310c9014a97d6c127e87628ff0893ac1", func := "carousel/carousellaw13.LossNone", spec := "lossNone", inPlace := ["math/bits.Add64", "math/bits.Sub64"], unfollowed := true, recurses := true, named := ["math/bits.divideError", "math/bits.overflowError"], apart := false, narrowed := true }
def LossNoneUptoSaid : Prop := lossNoneUptoRow.holds Tryz.pinned (OpenSpec.upto lossNoneSpec)

end Rows
end Go.Proofs.YtlgiakkejlbbfaaGreat
