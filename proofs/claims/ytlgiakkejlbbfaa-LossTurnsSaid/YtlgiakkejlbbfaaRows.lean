/-
  No cell of these rows narrows 'for every input' (looked for: loops, veiled, ifaces, maps, wideKeys, modest, calm, conditions, laid).
  DERIVED. THE GIVEN ROWS OF THIS SEAT. 3 by the template 'for every input the law returns true; each argument reads behind the call as it read before'; 0 by the template 'total and deterministic' (their statements: YtlgiakkejlbbfaaTotals.lean).
  GIVEN WITH THE SEED: the statements are not yours to turn. If you find one false, say at which input.
  Laid BY PROGRAM, IN A SANDBOX (cutbox-rows.mjs): the forced cells as the released guide's own fill.sh prints them over the translation ef90cd2721b08295… (all of the seat's roots in one cut). By AI agents, Wed Nov 11 2026. No macro, syntax, notation, axiom, sorry.
-/
import Derived.Test.YtlgiakkejlbbfaaChecked
import GoSem.Claim
import GoSem.ClaimJoined
import GoSem.ClaimMapViews
import Derived.JoinedTies
import Derived.KernelRfl
namespace Go.Proofs.Ytlgiakkejlbbfaa
/- THE CELL 'sum', in the pinned program and in every row, IS THE sha256 OF THE DUMP (.gsa) THAT YtlgiakkejlbbfaaProg.lean LOADS. Nothing in Lean hashes anything: it is a label: what it is worth is what the hold of that sum in a sandbox is worth. -/
noncomputable def Try.pinned : Pinned := { name := "ytlgiakkejlbbfaa", sum := "ef90cd2721b08295b07468d57e680167a823e51e1250dff5c7853a7f0a8d7844", checked := Try.checked }
namespace Rows
def none {H : Type} : Left H := { results := [], args := [] }

/-- 'carousellaw13.LossTurns': WHATEVER THE INPUT: true; the input reads as it did. -/
def lossTurnsSpec : ChangeSpec := { name := "lossTurns", fn := fun _ => fun
  | [d1, d2] => { results := [.lit (.bool true)], args := [d1, d2] }
  | _ => none }
def lossTurnsRow : OpenClaim := { program := "ytlgiakkejlbbfaa", sum := "ef90cd2721b08295b07468d57e680167a823e51e1250dff5c7853a7f0a8d7844", func := "carousel/carousellaw13.LossTurns", spec := "lossTurns", inPlace := ["math/bits.Add64", "math/bits.Sub64"], unfollowed := true, recurses := true, named := ["math/bits.divideError", "math/bits.overflowError"], apart := false }
def LossTurnsSaid : Prop := lossTurnsRow.holds Try.pinned (OpenSpec.ofChange lossTurnsSpec)

/-- ITS FALSE NEIGHBOUR: 'it returns false'. Refute it at one input. -/
def lossTurnsWrong : ChangeSpec := { name := "lossTurns", fn := fun _ => fun
  | [d1, d2] => { results := [.lit (.bool false)], args := [d1, d2] }
  | _ => none }
def LossTurnsWrongFalsely : Prop := lossTurnsRow.holds Try.pinned (OpenSpec.ofChange lossTurnsWrong)

/-- 'carousellaw13.LossHinges': WHATEVER THE INPUT: true; the input reads as it did. -/
def lossHingesSpec : ChangeSpec := { name := "lossHinges", fn := fun _ => fun
  | [d1, d2] => { results := [.lit (.bool true)], args := [d1, d2] }
  | _ => none }
def lossHingesRow : OpenClaim := { program := "ytlgiakkejlbbfaa", sum := "ef90cd2721b08295b07468d57e680167a823e51e1250dff5c7853a7f0a8d7844", func := "carousel/carousellaw13.LossHinges", spec := "lossHinges", inPlace := ["math/bits.Add64", "math/bits.Sub64"], unfollowed := true, recurses := true, named := ["math/bits.divideError", "math/bits.overflowError"], apart := false }
def LossHingesSaid : Prop := lossHingesRow.holds Try.pinned (OpenSpec.ofChange lossHingesSpec)

/-- ITS FALSE NEIGHBOUR: 'it returns false'. Refute it at one input. -/
def lossHingesWrong : ChangeSpec := { name := "lossHinges", fn := fun _ => fun
  | [d1, d2] => { results := [.lit (.bool false)], args := [d1, d2] }
  | _ => none }
def LossHingesWrongFalsely : Prop := lossHingesRow.holds Try.pinned (OpenSpec.ofChange lossHingesWrong)

/-- 'carousellaw13.LossKnown': WHATEVER THE INPUT: true; the input reads as it did. -/
def lossKnownSpec : ChangeSpec := { name := "lossKnown", fn := fun _ => fun
  | [] => { results := [.lit (.bool true)], args := [] }
  | _ => none }
def lossKnownRow : OpenClaim := { program := "ytlgiakkejlbbfaa", sum := "ef90cd2721b08295b07468d57e680167a823e51e1250dff5c7853a7f0a8d7844", func := "carousel/carousellaw13.LossKnown", spec := "lossKnown", inPlace := ["math/bits.Add64", "math/bits.Sub64"], unfollowed := true, recurses := true, named := ["math/bits.divideError", "math/bits.overflowError"], apart := false }
def LossKnownSaid : Prop := lossKnownRow.holds Try.pinned (OpenSpec.ofChange lossKnownSpec)

/-- ITS FALSE NEIGHBOUR: 'it returns false'. Refute it at one input. -/
def lossKnownWrong : ChangeSpec := { name := "lossKnown", fn := fun _ => fun
  | [] => { results := [.lit (.bool false)], args := [] }
  | _ => none }
def LossKnownWrongFalsely : Prop := lossKnownRow.holds Try.pinned (OpenSpec.ofChange lossKnownWrong)

/- THE SECOND FORM. 'bulk': how many values and letters a reading holds, each counted each time it is reached (what is shared counts as often as it is met; a slice's spare places count too). A statement '..UptoSaid' is the law's where the arguments, and the package variables that the reading takes, are together of bulk at most 1048576: NARROWER than '..Said'. Prove '..Said' where nothing that the law and all that it calls make is longer than what came in: it says more and counts as full. Else prove '..UptoSaid'. A law counts once. -/
mutual
def uptoBulk {H : Type} : DataW H → Nat
  | .lit (.string bytes) => bytes.length + 1
  | .lit _ => 1
  | .nil => 1
  | .ptr d => uptoBulk d + 1
  | .slice elems spare => uptoBulkAll elems + uptoBulkAll spare + 1
  | .agg parts => uptoBulkAll parts + 1
  | .iface _ d => uptoBulk d + 1
  | .map entries => uptoBulkEntries entries + 1
  | .held _ => 1
def uptoBulkAll {H : Type} : List (DataW H) → Nat
  | [] => 0
  | d :: r => uptoBulk d + uptoBulkAll r
def uptoBulkEntries {H : Type} : List (Lit × DataW H) → Nat
  | [] => 0
  | x :: r => uptoBulkEntry x + uptoBulkEntries r
def uptoBulkEntry {H : Type} : Lit × DataW H → Nat
  | (.string bytes, d) => bytes.length + uptoBulk d + 1
  | (_, d) => uptoBulk d + 1
 end
def uptoSmall : (H : Type) → List (DataW H) → Bool := fun _ ds => decide (uptoBulkAll ds ≤ 1048576)
def OpenSpec.upto (s : _root_.Go.ChangeSpec) : _root_.Go.OpenSpec := { _root_.Go.OpenSpec.ofChange s with cond := some uptoSmall }

/-- 'carousellaw13.LossTurns', WHERE WHAT IT READS IS OF BULK AT MOST 1048576: true; the input reads as it did. -/
def lossTurnsUptoRow : OpenClaim := { program := "ytlgiakkejlbbfaa", sum := "ef90cd2721b08295b07468d57e680167a823e51e1250dff5c7853a7f0a8d7844", func := "carousel/carousellaw13.LossTurns", spec := "lossTurns", inPlace := ["math/bits.Add64", "math/bits.Sub64"], unfollowed := true, recurses := true, named := ["math/bits.divideError", "math/bits.overflowError"], apart := false, narrowed := true }
def LossTurnsUptoSaid : Prop := lossTurnsUptoRow.holds Try.pinned (OpenSpec.upto lossTurnsSpec)

/-- 'carousellaw13.LossHinges', WHERE WHAT IT READS IS OF BULK AT MOST 1048576: true; the input reads as it did. -/
def lossHingesUptoRow : OpenClaim := { program := "ytlgiakkejlbbfaa", sum := "ef90cd2721b08295b07468d57e680167a823e51e1250dff5c7853a7f0a8d7844", func := "carousel/carousellaw13.LossHinges", spec := "lossHinges", inPlace := ["math/bits.Add64", "math/bits.Sub64"], unfollowed := true, recurses := true, named := ["math/bits.divideError", "math/bits.overflowError"], apart := false, narrowed := true }
def LossHingesUptoSaid : Prop := lossHingesUptoRow.holds Try.pinned (OpenSpec.upto lossHingesSpec)

/-- 'carousellaw13.LossKnown', WHERE WHAT IT READS IS OF BULK AT MOST 1048576: true; the input reads as it did. -/
def lossKnownUptoRow : OpenClaim := { program := "ytlgiakkejlbbfaa", sum := "ef90cd2721b08295b07468d57e680167a823e51e1250dff5c7853a7f0a8d7844", func := "carousel/carousellaw13.LossKnown", spec := "lossKnown", inPlace := ["math/bits.Add64", "math/bits.Sub64"], unfollowed := true, recurses := true, named := ["math/bits.divideError", "math/bits.overflowError"], apart := false, narrowed := true }
def LossKnownUptoSaid : Prop := lossKnownUptoRow.holds Try.pinned (OpenSpec.upto lossKnownSpec)

end Rows
end Go.Proofs.Ytlgiakkejlbbfaa
