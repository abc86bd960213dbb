/-
  No cell of these rows narrows 'for every input' (looked for: loops, veiled, ifaces, maps, wideKeys, modest, calm, conditions, laid).
  DERIVED. THE GIVEN ROWS OF THIS SEAT. 4 by the template 'for every input the law returns true; each argument reads behind the call as it read before'; 0 by the template 'total and deterministic' (their statements: YtgkmdgdkmgkelaaGreatTotals.lean).
  GIVEN WITH THE SEED: the statements are not yours to turn. If you find one false, say at which input.
  Laid BY PROGRAM, IN A SANDBOX (cutbox-rows.mjs): the forced cells as the released guide's own fill.sh prints them over the translation d1e88777fffbfcc5… (all of the seat's roots in one cut). By AI agents, Wed Nov 11 2026. No macro, syntax, notation, axiom, sorry.
-/
import Derived.Test.YtgkmdgdkmgkelaaGreatChecked
import GoSem.Claim
import GoSem.ClaimJoined
import GoSem.ClaimMapViews
import Derived.JoinedTies
import Derived.KernelRfl
namespace Go.Proofs.YtgkmdgdkmgkelaaGreat
/- THE CELL 'sum', in the pinned program and in every row, IS THE sha256 OF THE DUMP (.gsa) THAT YtgkmdgdkmgkelaaGreatProg.lean LOADS. Nothing in Lean hashes anything: it is a label: what it is worth is what the hold of that sum in a sandbox is worth. -/
noncomputable def Tryz.pinned : Pinned := { name := "ytgkmdgdkmgkelaagreat", sum := "d1e88777fffbfcc5f21cd464f4767a9645fa569b018d5d803e9d476a40414d92", checked := Tryz.checked }
namespace Rows
def none {H : Type} : Left H := { results := [], args := [] }

/-- 'carousellaw14.GradKnown': WHATEVER THE INPUT: true; the input reads as it did. -/
def gradKnownSpec : ChangeSpec := { name := "gradKnown", fn := fun _ => fun
  | [] => { results := [.lit (.bool true)], args := [] }
  | _ => none }
def gradKnownRow : OpenClaim := { program := "ytgkmdgdkmgkelaagreat", sum := "d1e88777fffbfcc5f21cd464f4767a9645fa569b018d5d803e9d476a40414d92", func := "carousel/carousellaw14.GradKnown", spec := "gradKnown", inPlace := ["math/bits.Add64", "math/bits.Sub64"], unfollowed := true, recurses := true, named := ["math/bits.divideError", "math/bits.overflowError"], apart := false }
def GradKnownSaid : Prop := gradKnownRow.holds Tryz.pinned (OpenSpec.ofChange gradKnownSpec)

/-- ITS FALSE NEIGHBOUR: 'it returns false'. Refute it at one input. -/
def gradKnownWrong : ChangeSpec := { name := "gradKnown", fn := fun _ => fun
  | [] => { results := [.lit (.bool false)], args := [] }
  | _ => none }
def GradKnownWrongFalsely : Prop := gradKnownRow.holds Tryz.pinned (OpenSpec.ofChange gradKnownWrong)

/-- 'carousellaw14.GradJoins': WHATEVER THE INPUT: true; the input reads as it did. -/
def gradJoinsSpec : ChangeSpec := { name := "gradJoins", fn := fun _ => fun
  | [d1, d2] => { results := [.lit (.bool true)], args := [d1, d2] }
  | _ => none }
def gradJoinsRow : OpenClaim := { program := "ytgkmdgdkmgkelaagreat", sum := "d1e88777fffbfcc5f21cd464f4767a9645fa569b018d5d803e9d476a40414d92", func := "carousel/carousellaw14.GradJoins", spec := "gradJoins", inPlace := ["math/bits.Add64", "math/bits.Sub64"], unfollowed := true, recurses := true, named := ["math/bits.divideError", "math/bits.overflowError"], apart := false }
def GradJoinsSaid : Prop := gradJoinsRow.holds Tryz.pinned (OpenSpec.ofChange gradJoinsSpec)

/-- ITS FALSE NEIGHBOUR: 'it returns false'. Refute it at one input. -/
def gradJoinsWrong : ChangeSpec := { name := "gradJoins", fn := fun _ => fun
  | [d1, d2] => { results := [.lit (.bool false)], args := [d1, d2] }
  | _ => none }
def GradJoinsWrongFalsely : Prop := gradJoinsRow.holds Tryz.pinned (OpenSpec.ofChange gradJoinsWrong)

/-- 'carousellaw17.SoloKnown': WHATEVER THE INPUT: true; the input reads as it did. -/
def soloKnownSpec : ChangeSpec := { name := "soloKnown", fn := fun _ => fun
  | [] => { results := [.lit (.bool true)], args := [] }
  | _ => none }
def soloKnownRow : OpenClaim := { program := "ytgkmdgdkmgkelaagreat", sum := "d1e88777fffbfcc5f21cd464f4767a9645fa569b018d5d803e9d476a40414d92", func := "carousel/carousellaw17.SoloKnown", spec := "soloKnown", inPlace := ["math/bits.Add64", "math/bits.Sub64"], unfollowed := true, recurses := true, named := ["math/bits.divideError", "math/bits.overflowError"], apart := false }
def SoloKnownSaid : Prop := soloKnownRow.holds Tryz.pinned (OpenSpec.ofChange soloKnownSpec)

/-- ITS FALSE NEIGHBOUR: 'it returns false'. Refute it at one input. -/
def soloKnownWrong : ChangeSpec := { name := "soloKnown", fn := fun _ => fun
  | [] => { results := [.lit (.bool false)], args := [] }
  | _ => none }
def SoloKnownWrongFalsely : Prop := soloKnownRow.holds Tryz.pinned (OpenSpec.ofChange soloKnownWrong)

/-- 'carousellaw17.SoloLearns': WHATEVER THE INPUT: true; the input reads as it did. -/
def soloLearnsSpec : ChangeSpec := { name := "soloLearns", fn := fun _ => fun
  | [d1, d2] => { results := [.lit (.bool true)], args := [d1, d2] }
  | _ => none }
def soloLearnsRow : OpenClaim := { program := "ytgkmdgdkmgkelaagreat", sum := "d1e88777fffbfcc5f21cd464f4767a9645fa569b018d5d803e9d476a40414d92", func := "carousel/carousellaw17.SoloLearns", spec := "soloLearns", inPlace := ["math/bits.Add64", "math/bits.Sub64"], unfollowed := true, recurses := true, named := ["math/bits.divideError", "math/bits.overflowError"], apart := false }
def SoloLearnsSaid : Prop := soloLearnsRow.holds Tryz.pinned (OpenSpec.ofChange soloLearnsSpec)

/-- ITS FALSE NEIGHBOUR: 'it returns false'. Refute it at one input. -/
def soloLearnsWrong : ChangeSpec := { name := "soloLearns", fn := fun _ => fun
  | [d1, d2] => { results := [.lit (.bool false)], args := [d1, d2] }
  | _ => none }
def SoloLearnsWrongFalsely : Prop := soloLearnsRow.holds Tryz.pinned (OpenSpec.ofChange soloLearnsWrong)

/- THE SECOND FORM. 'bulk': how many values and letters a reading holds, each counted each time it is reached (what is shared counts as often as it is met; a slice's spare places count too). A statement '..UptoSaid' is the law's where the arguments, and the package variables that the reading takes, are together of bulk at most 1048576: NARROWER than '..Said'. Prove '..Said' where nothing that the law and all that it calls make is longer than what came in: it says more and counts as full. Else prove '..UptoSaid'. A law counts once. -/
mutual
def uptoBulk {H : Type} : DataW H → Nat
  | .lit (.string bytes) => bytes.length + 1
  | .lit _ => 1
  | .nil => 1
  | .ptr d => uptoBulk d + 1
  | .slice elems spare => uptoBulkAll elems + uptoBulkAll spare + 1
  | .agg parts => uptoBulkAll parts + 1
  | .iface _ d => uptoBulk d + 1
  | .map entries => uptoBulkEntries entries + 1
  | .held _ => 1
def uptoBulkAll {H : Type} : List (DataW H) → Nat
  | [] => 0
  | d :: r => uptoBulk d + uptoBulkAll r
def uptoBulkEntries {H : Type} : List (Lit × DataW H) → Nat
  | [] => 0
  | x :: r => uptoBulkEntry x + uptoBulkEntries r
def uptoBulkEntry {H : Type} : Lit × DataW H → Nat
  | (.string bytes, d) => bytes.length + uptoBulk d + 1
  | (_, d) => uptoBulk d + 1
 end
def uptoSmall : (H : Type) → List (DataW H) → Bool := fun _ ds => decide (uptoBulkAll ds ≤ 1048576)
def OpenSpec.upto (s : _root_.Go.ChangeSpec) : _root_.Go.OpenSpec := { _root_.Go.OpenSpec.ofChange s with cond := some uptoSmall }

/-- 'carousellaw14.GradKnown', WHERE WHAT IT READS IS OF BULK AT MOST 1048576: true; the input reads as it did. -/
def gradKnownUptoRow : OpenClaim := { program := "ytgkmdgdkmgkelaagreat", sum := "d1e88777fffbfcc5f21cd464f4767a9645fa569b018d5d803e9d476a40414d92", func := "carousel/carousellaw14.GradKnown", spec := "gradKnown", inPlace := ["math/bits.Add64", "math/bits.Sub64"], unfollowed := true, recurses := true, named := ["math/bits.divideError", "math/bits.overflowError"], apart := false, narrowed := true }
def GradKnownUptoSaid : Prop := gradKnownUptoRow.holds Tryz.pinned (OpenSpec.upto gradKnownSpec)

/-- 'carousellaw14.GradJoins', WHERE WHAT IT READS IS OF BULK AT MOST 1048576: true; the input reads as it did. -/
def gradJoinsUptoRow : OpenClaim := { program := "ytgkmdgdkmgkelaagreat", sum := "d1e88777fffbfcc5f21cd464f4767a9645fa569b018d5d803e9d476a40414d92", func := "carousel/carousellaw14.GradJoins", spec := "gradJoins", inPlace := ["math/bits.Add64", "math/bits.Sub64"], unfollowed := true, recurses := true, named := ["math/bits.divideError", "math/bits.overflowError"], apart := false, narrowed := true }
def GradJoinsUptoSaid : Prop := gradJoinsUptoRow.holds Tryz.pinned (OpenSpec.upto gradJoinsSpec)

/-- 'carousellaw17.SoloKnown', WHERE WHAT IT READS IS OF BULK AT MOST 1048576: true; the input reads as it did. -/
def soloKnownUptoRow : OpenClaim := { program := "ytgkmdgdkmgkelaagreat", sum := "d1e88777fffbfcc5f21cd464f4767a9645fa569b018d5d803e9d476a40414d92", func := "carousel/carousellaw17.SoloKnown", spec := "soloKnown", inPlace := ["math/bits.Add64", "math/bits.Sub64"], unfollowed := true, recurses := true, named := ["math/bits.divideError", "math/bits.overflowError"], apart := false, narrowed := true }
def SoloKnownUptoSaid : Prop := soloKnownUptoRow.holds Tryz.pinned (OpenSpec.upto soloKnownSpec)

/-- 'carousellaw17.SoloLearns', WHERE WHAT IT READS IS OF BULK AT MOST 1048576: true; the input reads as it did. -/
def soloLearnsUptoRow : OpenClaim := { program := "ytgkmdgdkmgkelaagreat", sum := "d1e88777fffbfcc5f21cd464f4767a9645fa569b018d5d803e9d476a40414d92", func := "carousel/carousellaw17.SoloLearns", spec := "soloLearns", inPlace := ["math/bits.Add64", "math/bits.Sub64"], unfollowed := true, recurses := true, named := ["math/bits.divideError", "math/bits.overflowError"], apart := false, narrowed := true }
def SoloLearnsUptoSaid : Prop := soloLearnsUptoRow.holds Tryz.pinned (OpenSpec.upto soloLearnsSpec)

end Rows
end Go.Proofs.YtgkmdgdkmgkelaaGreat
