/-
  No cell of these rows narrows 'for every input' (looked for: loops, veiled, ifaces, maps, wideKeys, modest, calm, conditions, laid).
  DERIVED. THE GIVEN ROWS OF THIS SEAT. 2 by the template 'for every input the law returns true; each argument reads behind the call as it read before'; 0 by the template 'total and deterministic' (their statements: YtnedcilckcemaaaGreatTotals.lean).
  GIVEN WITH THE SEED: the statements are not yours to turn. If you find one false, say at which input.
  Laid BY PROGRAM, IN A SANDBOX (cutbox-rows.mjs): the forced cells as the released guide's own fill.sh prints them over the translation 46433099cd7dccba… (all of the seat's roots in one cut). By AI agents, Wed Nov 11 2026. No macro, syntax, notation, axiom, sorry.
-/
import Derived.Test.YtnedcilckcemaaaGreatChecked
import GoSem.Claim
import GoSem.ClaimJoined
import GoSem.ClaimMapViews
import Derived.JoinedTies
import Derived.KernelRfl
namespace Go.Proofs.YtnedcilckcemaaaGreat
/- THE CELL 'sum', in the pinned program and in every row, IS THE sha256 OF THE DUMP (.gsa) THAT YtnedcilckcemaaaGreatProg.lean LOADS. Nothing in Lean hashes anything: it is a label: what it is worth is what the hold of that sum in a sandbox is worth. -/
noncomputable def Tryz.pinned : Pinned := { name := "ytnedcilckcemaaagreat", sum := "46433099cd7dccba96302100868c82fcfab1d4bd46848005a53c93365d8db184", checked := Tryz.checked }
namespace Rows
def none {H : Type} : Left H := { results := [], args := [] }

/-- 'carousellaw11.BackSweeps': WHATEVER THE INPUT: true; the input reads as it did. -/
def backSweepsSpec : ChangeSpec := { name := "backSweeps", fn := fun _ => fun
  | [d1, d2] => { results := [.lit (.bool true)], args := [d1, d2] }
  | _ => none }
def backSweepsRow : OpenClaim := { program := "ytnedcilckcemaaagreat", sum := "46433099cd7dccba96302100868c82fcfab1d4bd46848005a53c93365d8db184", func := "carousel/carousellaw11.BackSweeps", spec := "backSweeps", inPlace := ["math/bits.Add64", "math/bits.Sub64"], unfollowed := true, recurses := true, named := ["math/bits.divideError", "math/bits.overflowError"], apart := false }
def BackSweepsSaid : Prop := backSweepsRow.holds Tryz.pinned (OpenSpec.ofChange backSweepsSpec)

/-- ITS FALSE NEIGHBOUR: 'it returns false'. Refute it at one input. -/
def backSweepsWrong : ChangeSpec := { name := "backSweeps", fn := fun _ => fun
  | [d1, d2] => { results := [.lit (.bool false)], args := [d1, d2] }
  | _ => none }
def BackSweepsWrongFalsely : Prop := backSweepsRow.holds Tryz.pinned (OpenSpec.ofChange backSweepsWrong)

/-- 'carousellaw11.BackOnes': WHATEVER THE INPUT: true; the input reads as it did. -/
def backOnesSpec : ChangeSpec := { name := "backOnes", fn := fun _ => fun
  | [d1, d2, d3, d4] => { results := [.lit (.bool true)], args := [d1, d2, d3, d4] }
  | _ => none }
def backOnesRow : OpenClaim := { program := "ytnedcilckcemaaagreat", sum := "46433099cd7dccba96302100868c82fcfab1d4bd46848005a53c93365d8db184", func := "carousel/carousellaw11.BackOnes", spec := "backOnes", inPlace := ["math/bits.Add64", "math/bits.Sub64"], unfollowed := true, recurses := true, named := ["math/bits.divideError", "math/bits.overflowError"], apart := false }
def BackOnesSaid : Prop := backOnesRow.holds Tryz.pinned (OpenSpec.ofChange backOnesSpec)

/-- ITS FALSE NEIGHBOUR: 'it returns false'. Refute it at one input. -/
def backOnesWrong : ChangeSpec := { name := "backOnes", fn := fun _ => fun
  | [d1, d2, d3, d4] => { results := [.lit (.bool false)], args := [d1, d2, d3, d4] }
  | _ => none }
def BackOnesWrongFalsely : Prop := backOnesRow.holds Tryz.pinned (OpenSpec.ofChange backOnesWrong)

/- THE SECOND FORM. 'bulk': how many values and letters a reading holds, each counted each time it is reached (what is shared counts as often as it is met; a slice's spare places count too). A statement '..UptoSaid' is the law's where the arguments, and the package variables that the reading takes, are together of bulk at most 1048576: NARROWER than '..Said'. Prove '..Said' where nothing that the law and all that it calls make is longer than what came in: it says more and counts as full. Else prove '..UptoSaid'. A law counts once. -/
mutual
def uptoBulk {H : Type} : DataW H → Nat
  | .lit (.string bytes) => bytes.length + 1
  | .lit _ => 1
  | .nil => 1
  | .ptr d => uptoBulk d + 1
  | .slice elems spare => uptoBulkAll elems + uptoBulkAll spare + 1
  | .agg parts => uptoBulkAll parts + 1
  | .iface _ d => uptoBulk d + 1
  | .map entries => uptoBulkEntries entries + 1
  | .held _ => 1
def uptoBulkAll {H : Type} : List (DataW H) → Nat
  | [] => 0
  | d :: r => uptoBulk d + uptoBulkAll r
def uptoBulkEntries {H : Type} : List (Lit × DataW H) → Nat
  | [] => 0
  | x :: r => uptoBulkEntry x + uptoBulkEntries r
def uptoBulkEntry {H : Type} : Lit × DataW H → Nat
  | (.string bytes, d) => bytes.length + uptoBulk d + 1
  | (_, d) => uptoBulk d + 1
 end
def uptoSmall : (H : Type) → List (DataW H) → Bool := fun _ ds => decide (uptoBulkAll ds ≤ 1048576)
def OpenSpec.upto (s : _root_.Go.ChangeSpec) : _root_.Go.OpenSpec := { _root_.Go.OpenSpec.ofChange s with cond := some uptoSmall }

/-- 'carousellaw11.BackSweeps', WHERE WHAT IT READS IS OF BULK AT MOST 1048576: true; the input reads as it did. -/
def backSweepsUptoRow : OpenClaim := { program := "ytnedcilckcemaaagreat", sum := "46433099cd7dccba96302100868c82fcfab1d4bd46848005a53c93365d8db184", func := "carousel/carousellaw11.BackSweeps", spec := "backSweeps", inPlace := ["math/bits.Add64", "math/bits.Sub64"], unfollowed := true, recurses := true, named := ["math/bits.divideError", "math/bits.overflowError"], apart := false, narrowed := true }
def BackSweepsUptoSaid : Prop := backSweepsUptoRow.holds Tryz.pinned (OpenSpec.upto backSweepsSpec)

/-- 'carousellaw11.BackOnes', WHERE WHAT IT READS IS OF BULK AT MOST 1048576: true; the input reads as it did. -/
def backOnesUptoRow : OpenClaim := { program := "ytnedcilckcemaaagreat", sum := "46433099cd7dccba96302100868c82fcfab1d4bd46848005a53c93365d8db184", func := "carousel/carousellaw11.BackOnes", spec := "backOnes", inPlace := ["math/bits.Add64", "math/bits.Sub64"], unfollowed := true, recurses := true, named := ["math/bits.divideError", "math/bits.overflowError"], apart := false, narrowed := true }
def BackOnesUptoSaid : Prop := backOnesUptoRow.holds Tryz.pinned (OpenSpec.upto backOnesSpec)

end Rows
end Go.Proofs.YtnedcilckcemaaaGreat
