/-
  No cell of these rows narrows 'for every input' (looked for: loops, veiled, ifaces, maps, wideKeys, modest, calm, conditions, laid).
  DERIVED. THE GIVEN ROWS OF THIS SEAT. 12 by the template 'for every input the law returns true; each argument reads behind the call as it read before'; 0 by the template 'total and deterministic' (their statements: YtoicgngppmpapaaGreatTotals.lean).
  GIVEN WITH THE SEED: the statements are not yours to turn. If you find one false, say at which input.
  Laid BY PROGRAM, IN A SANDBOX (cutbox-rows.mjs): the forced cells as the released guide's own fill.sh prints them over the translation 16ab227ea3e34ec0… (all of the seat's roots in one cut). By AI agents, Wed Nov 11 2026. No macro, syntax, notation, axiom, sorry.
-/
import Derived.Test.YtoicgngppmpapaaGreatChecked
import GoSem.Claim
import GoSem.ClaimJoined
import GoSem.ClaimMapViews
import Derived.JoinedTies
import Derived.KernelRfl
namespace Go.Proofs.YtoicgngppmpapaaGreat
/- THE CELL 'sum', in the pinned program and in every row, IS THE sha256 OF THE DUMP (.gsa) THAT YtoicgngppmpapaaGreatProg.lean LOADS. Nothing in Lean hashes anything: it is a label: what it is worth is what the hold of that sum in a sandbox is worth. -/
noncomputable def Tryz.pinned : Pinned := { name := "ytoicgngppmpapaagreat", sum := "16ab227ea3e34ec0863649b40260b770a885504afd40e88dacd88207eba5b6c7", checked := Tryz.checked }
namespace Rows
def none {H : Type} : Left H := { results := [], args := [] }

/-- 'carousellaw13.LossSays': WHATEVER THE INPUT: true; the input reads as it did. -/
def lossSaysSpec : ChangeSpec := { name := "lossSays", fn := fun _ => fun
  | [d1, d2, d3, d4] => { results := [.lit (.bool true)], args := [d1, d2, d3, d4] }
  | _ => none }
def lossSaysRow : OpenClaim := { program := "ytoicgngppmpapaagreat", sum := "16ab227ea3e34ec0863649b40260b770a885504afd40e88dacd88207eba5b6c7", func := "carousel/carousellaw13.LossSays", spec := "lossSays", inPlace := ["math/bits.Add64", "math/bits.Sub64"], unfollowed := true, recurses := true, named := ["math/bits.divideError", "math/bits.overflowError"], apart := false }
def LossSaysSaid : Prop := lossSaysRow.holds Tryz.pinned (OpenSpec.ofChange lossSaysSpec)

/-- ITS FALSE NEIGHBOUR: 'it returns false'. Refute it at one input. -/
def lossSaysWrong : ChangeSpec := { name := "lossSays", fn := fun _ => fun
  | [d1, d2, d3, d4] => { results := [.lit (.bool false)], args := [d1, d2, d3, d4] }
  | _ => none }
def LossSaysWrongFalsely : Prop := lossSaysRow.holds Tryz.pinned (OpenSpec.ofChange lossSaysWrong)

/-- 'carousellaw14.GradSays': WHATEVER THE INPUT: true; the input reads as it did. -/
def gradSaysSpec : ChangeSpec := { name := "gradSays", fn := fun _ => fun
  | [d1, d2, d3, d4] => { results := [.lit (.bool true)], args := [d1, d2, d3, d4] }
  | _ => none }
def gradSaysRow : OpenClaim := { program := "ytoicgngppmpapaagreat", sum := "16ab227ea3e34ec0863649b40260b770a885504afd40e88dacd88207eba5b6c7", func := "carousel/carousellaw14.GradSays", spec := "gradSays", inPlace := ["math/bits.Add64", "math/bits.Sub64"], unfollowed := true, recurses := true, named := ["math/bits.divideError", "math/bits.overflowError"], apart := false }
def GradSaysSaid : Prop := gradSaysRow.holds Tryz.pinned (OpenSpec.ofChange gradSaysSpec)

/-- ITS FALSE NEIGHBOUR: 'it returns false'. Refute it at one input. -/
def gradSaysWrong : ChangeSpec := { name := "gradSays", fn := fun _ => fun
  | [d1, d2, d3, d4] => { results := [.lit (.bool false)], args := [d1, d2, d3, d4] }
  | _ => none }
def GradSaysWrongFalsely : Prop := gradSaysRow.holds Tryz.pinned (OpenSpec.ofChange gradSaysWrong)

/-- 'carousellaw14.GradSums': WHATEVER THE INPUT: true; the input reads as it did. -/
def gradSumsSpec : ChangeSpec := { name := "gradSums", fn := fun _ => fun
  | [d1, d2, d3, d4] => { results := [.lit (.bool true)], args := [d1, d2, d3, d4] }
  | _ => none }
def gradSumsRow : OpenClaim := { program := "ytoicgngppmpapaagreat", sum := "16ab227ea3e34ec0863649b40260b770a885504afd40e88dacd88207eba5b6c7", func := "carousel/carousellaw14.GradSums", spec := "gradSums", inPlace := ["math/bits.Add64", "math/bits.Sub64"], unfollowed := true, recurses := true, named := ["math/bits.divideError", "math/bits.overflowError"], apart := false }
def GradSumsSaid : Prop := gradSumsRow.holds Tryz.pinned (OpenSpec.ofChange gradSumsSpec)

/-- ITS FALSE NEIGHBOUR: 'it returns false'. Refute it at one input. -/
def gradSumsWrong : ChangeSpec := { name := "gradSums", fn := fun _ => fun
  | [d1, d2, d3, d4] => { results := [.lit (.bool false)], args := [d1, d2, d3, d4] }
  | _ => none }
def GradSumsWrongFalsely : Prop := gradSumsRow.holds Tryz.pinned (OpenSpec.ofChange gradSumsWrong)

/-- 'carousellaw14.GradTurns': WHATEVER THE INPUT: true; the input reads as it did. -/
def gradTurnsSpec : ChangeSpec := { name := "gradTurns", fn := fun _ => fun
  | [d1, d2, d3, d4] => { results := [.lit (.bool true)], args := [d1, d2, d3, d4] }
  | _ => none }
def gradTurnsRow : OpenClaim := { program := "ytoicgngppmpapaagreat", sum := "16ab227ea3e34ec0863649b40260b770a885504afd40e88dacd88207eba5b6c7", func := "carousel/carousellaw14.GradTurns", spec := "gradTurns", inPlace := ["math/bits.Add64", "math/bits.Sub64"], unfollowed := true, recurses := true, named := ["math/bits.divideError", "math/bits.overflowError"], apart := false }
def GradTurnsSaid : Prop := gradTurnsRow.holds Tryz.pinned (OpenSpec.ofChange gradTurnsSpec)

/-- ITS FALSE NEIGHBOUR: 'it returns false'. Refute it at one input. -/
def gradTurnsWrong : ChangeSpec := { name := "gradTurns", fn := fun _ => fun
  | [d1, d2, d3, d4] => { results := [.lit (.bool false)], args := [d1, d2, d3, d4] }
  | _ => none }
def GradTurnsWrongFalsely : Prop := gradTurnsRow.holds Tryz.pinned (OpenSpec.ofChange gradTurnsWrong)

/-- 'carousellaw14.GradParts': WHATEVER THE INPUT: true; the input reads as it did. -/
def gradPartsSpec : ChangeSpec := { name := "gradParts", fn := fun _ => fun
  | [d1, d2, d3, d4, d5] => { results := [.lit (.bool true)], args := [d1, d2, d3, d4, d5] }
  | _ => none }
def gradPartsRow : OpenClaim := { program := "ytoicgngppmpapaagreat", sum := "16ab227ea3e34ec0863649b40260b770a885504afd40e88dacd88207eba5b6c7", func := "carousel/carousellaw14.GradParts", spec := "gradParts", inPlace := ["math/bits.Add64", "math/bits.Sub64"], unfollowed := true, recurses := true, named := ["math/bits.divideError", "math/bits.overflowError"], apart := false }
def GradPartsSaid : Prop := gradPartsRow.holds Tryz.pinned (OpenSpec.ofChange gradPartsSpec)

/-- ITS FALSE NEIGHBOUR: 'it returns false'. Refute it at one input. -/
def gradPartsWrong : ChangeSpec := { name := "gradParts", fn := fun _ => fun
  | [d1, d2, d3, d4, d5] => { results := [.lit (.bool false)], args := [d1, d2, d3, d4, d5] }
  | _ => none }
def GradPartsWrongFalsely : Prop := gradPartsRow.holds Tryz.pinned (OpenSpec.ofChange gradPartsWrong)

/-- 'carousellaw14.GradTwice': WHATEVER THE INPUT: true; the input reads as it did. -/
def gradTwiceSpec : ChangeSpec := { name := "gradTwice", fn := fun _ => fun
  | [d1, d2, d3, d4] => { results := [.lit (.bool true)], args := [d1, d2, d3, d4] }
  | _ => none }
def gradTwiceRow : OpenClaim := { program := "ytoicgngppmpapaagreat", sum := "16ab227ea3e34ec0863649b40260b770a885504afd40e88dacd88207eba5b6c7", func := "carousel/carousellaw14.GradTwice", spec := "gradTwice", inPlace := ["math/bits.Add64", "math/bits.Sub64"], unfollowed := true, recurses := true, named := ["math/bits.divideError", "math/bits.overflowError"], apart := false }
def GradTwiceSaid : Prop := gradTwiceRow.holds Tryz.pinned (OpenSpec.ofChange gradTwiceSpec)

/-- ITS FALSE NEIGHBOUR: 'it returns false'. Refute it at one input. -/
def gradTwiceWrong : ChangeSpec := { name := "gradTwice", fn := fun _ => fun
  | [d1, d2, d3, d4] => { results := [.lit (.bool false)], args := [d1, d2, d3, d4] }
  | _ => none }
def GradTwiceWrongFalsely : Prop := gradTwiceRow.holds Tryz.pinned (OpenSpec.ofChange gradTwiceWrong)

/-- 'carousellaw17.SoloKnown': WHATEVER THE INPUT: true; the input reads as it did. -/
def soloKnownSpec : ChangeSpec := { name := "soloKnown", fn := fun _ => fun
  | [] => { results := [.lit (.bool true)], args := [] }
  | _ => none }
def soloKnownRow : OpenClaim := { program := "ytoicgngppmpapaagreat", sum := "16ab227ea3e34ec0863649b40260b770a885504afd40e88dacd88207eba5b6c7", func := "carousel/carousellaw17.SoloKnown", spec := "soloKnown", inPlace := ["math/bits.Add64", "math/bits.Sub64"], unfollowed := true, recurses := true, named := ["math/bits.divideError", "math/bits.overflowError"], apart := false }
def SoloKnownSaid : Prop := soloKnownRow.holds Tryz.pinned (OpenSpec.ofChange soloKnownSpec)

/-- ITS FALSE NEIGHBOUR: 'it returns false'. Refute it at one input. -/
def soloKnownWrong : ChangeSpec := { name := "soloKnown", fn := fun _ => fun
  | [] => { results := [.lit (.bool false)], args := [] }
  | _ => none }
def SoloKnownWrongFalsely : Prop := soloKnownRow.holds Tryz.pinned (OpenSpec.ofChange soloKnownWrong)

/-- 'carousellaw17.SoloGood': WHATEVER THE INPUT: true; the input reads as it did. -/
def soloGoodSpec : ChangeSpec := { name := "soloGood", fn := fun _ => fun
  | [d] => { results := [.lit (.bool true)], args := [d] }
  | _ => none }
def soloGoodRow : OpenClaim := { program := "ytoicgngppmpapaagreat", sum := "16ab227ea3e34ec0863649b40260b770a885504afd40e88dacd88207eba5b6c7", func := "carousel/carousellaw17.SoloGood", spec := "soloGood", inPlace := ["math/bits.Add64", "math/bits.Sub64"], unfollowed := true, recurses := true, named := ["math/bits.divideError", "math/bits.overflowError"], apart := false }
def SoloGoodSaid : Prop := soloGoodRow.holds Tryz.pinned (OpenSpec.ofChange soloGoodSpec)

/-- ITS FALSE NEIGHBOUR: 'it returns false'. Refute it at one input. -/
def soloGoodWrong : ChangeSpec := { name := "soloGood", fn := fun _ => fun
  | [d] => { results := [.lit (.bool false)], args := [d] }
  | _ => none }
def SoloGoodWrongFalsely : Prop := soloGoodRow.holds Tryz.pinned (OpenSpec.ofChange soloGoodWrong)

/-- 'carousellaw17.SoloTwice': WHATEVER THE INPUT: true; the input reads as it did. -/
def soloTwiceSpec : ChangeSpec := { name := "soloTwice", fn := fun _ => fun
  | [d1, d2] => { results := [.lit (.bool true)], args := [d1, d2] }
  | _ => none }
def soloTwiceRow : OpenClaim := { program := "ytoicgngppmpapaagreat", sum := "16ab227ea3e34ec0863649b40260b770a885504afd40e88dacd88207eba5b6c7", func := "carousel/carousellaw17.SoloTwice", spec := "soloTwice", inPlace := ["math/bits.Add64", "math/bits.Sub64"], unfollowed := true, recurses := true, named := ["math/bits.divideError", "math/bits.overflowError"], apart := false }
def SoloTwiceSaid : Prop := soloTwiceRow.holds Tryz.pinned (OpenSpec.ofChange soloTwiceSpec)

/-- ITS FALSE NEIGHBOUR: 'it returns false'. Refute it at one input. -/
def soloTwiceWrong : ChangeSpec := { name := "soloTwice", fn := fun _ => fun
  | [d1, d2] => { results := [.lit (.bool false)], args := [d1, d2] }
  | _ => none }
def SoloTwiceWrongFalsely : Prop := soloTwiceRow.holds Tryz.pinned (OpenSpec.ofChange soloTwiceWrong)

/-- 'carousellaw17.SoloTurns': WHATEVER THE INPUT: true; the input reads as it did. -/
def soloTurnsSpec : ChangeSpec := { name := "soloTurns", fn := fun _ => fun
  | [d1, d2] => { results := [.lit (.bool true)], args := [d1, d2] }
  | _ => none }
def soloTurnsRow : OpenClaim := { program := "ytoicgngppmpapaagreat", sum := "16ab227ea3e34ec0863649b40260b770a885504afd40e88dacd88207eba5b6c7", func := "carousel/carousellaw17.SoloTurns", spec := "soloTurns", inPlace := ["math/bits.Add64", "math/bits.Sub64"], unfollowed := true, recurses := true, named := ["math/bits.divideError", "math/bits.overflowError"], apart := false }
def SoloTurnsSaid : Prop := soloTurnsRow.holds Tryz.pinned (OpenSpec.ofChange soloTurnsSpec)

/-- ITS FALSE NEIGHBOUR: 'it returns false'. Refute it at one input. -/
def soloTurnsWrong : ChangeSpec := { name := "soloTurns", fn := fun _ => fun
  | [d1, d2] => { results := [.lit (.bool false)], args := [d1, d2] }
  | _ => none }
def SoloTurnsWrongFalsely : Prop := soloTurnsRow.holds Tryz.pinned (OpenSpec.ofChange soloTurnsWrong)

/-- 'carousellaw17.SoloSteps': WHATEVER THE INPUT: true; the input reads as it did. -/
def soloStepsSpec : ChangeSpec := { name := "soloSteps", fn := fun _ => fun
  | [d1, d2] => { results := [.lit (.bool true)], args := [d1, d2] }
  | _ => none }
def soloStepsRow : OpenClaim := { program := "ytoicgngppmpapaagreat", sum := "16ab227ea3e34ec0863649b40260b770a885504afd40e88dacd88207eba5b6c7", func := "carousel/carousellaw17.SoloSteps", spec := "soloSteps", inPlace := ["math/bits.Add64", "math/bits.Sub64"], unfollowed := true, recurses := true, named := ["math/bits.divideError", "math/bits.overflowError"], apart := false }
def SoloStepsSaid : Prop := soloStepsRow.holds Tryz.pinned (OpenSpec.ofChange soloStepsSpec)

/-- ITS FALSE NEIGHBOUR: 'it returns false'. Refute it at one input. -/
def soloStepsWrong : ChangeSpec := { name := "soloSteps", fn := fun _ => fun
  | [d1, d2] => { results := [.lit (.bool false)], args := [d1, d2] }
  | _ => none }
def SoloStepsWrongFalsely : Prop := soloStepsRow.holds Tryz.pinned (OpenSpec.ofChange soloStepsWrong)

/-- 'carousellaw17.SoloLearns': WHATEVER THE INPUT: true; the input reads as it did. -/
def soloLearnsSpec : ChangeSpec := { name := "soloLearns", fn := fun _ => fun
  | [d1, d2] => { results := [.lit (.bool true)], args := [d1, d2] }
  | _ => none }
def soloLearnsRow : OpenClaim := { program := "ytoicgngppmpapaagreat", sum := "16ab227ea3e34ec0863649b40260b770a885504afd40e88dacd88207eba5b6c7", func := "carousel/carousellaw17.SoloLearns", spec := "soloLearns", inPlace := ["math/bits.Add64", "math/bits.Sub64"], unfollowed := true, recurses := true, named := ["math/bits.divideError", "math/bits.overflowError"], apart := false }
def SoloLearnsSaid : Prop := soloLearnsRow.holds Tryz.pinned (OpenSpec.ofChange soloLearnsSpec)

/-- ITS FALSE NEIGHBOUR: 'it returns false'. Refute it at one input. -/
def soloLearnsWrong : ChangeSpec := { name := "soloLearns", fn := fun _ => fun
  | [d1, d2] => { results := [.lit (.bool false)], args := [d1, d2] }
  | _ => none }
def SoloLearnsWrongFalsely : Prop := soloLearnsRow.holds Tryz.pinned (OpenSpec.ofChange soloLearnsWrong)

/- THE SECOND FORM. 'bulk': how many values and letters a reading holds, each counted each time it is reached (what is shared counts as often as it is met; a slice's spare places count too). A statement '..UptoSaid' is the law's where the arguments, and the package variables that the reading takes, are together of bulk at most 1048576: NARROWER than '..Said'. Prove '..Said' where nothing that the law and all that it calls make is longer than what came in: it says more and counts as full. Else prove '..UptoSaid'. A law counts once. -/
mutual
def uptoBulk {H : Type} : DataW H → Nat
  | .lit (.string bytes) => bytes.length + 1
  | .lit _ => 1
  | .nil => 1
  | .ptr d => uptoBulk d + 1
  | .slice elems spare => uptoBulkAll elems + uptoBulkAll spare + 1
  | .agg parts => uptoBulkAll parts + 1
  | .iface _ d => uptoBulk d + 1
  | .map entries => uptoBulkEntries entries + 1
  | .held _ => 1
def uptoBulkAll {H : Type} : List (DataW H) → Nat
  | [] => 0
  | d :: r => uptoBulk d + uptoBulkAll r
def uptoBulkEntries {H : Type} : List (Lit × DataW H) → Nat
  | [] => 0
  | x :: r => uptoBulkEntry x + uptoBulkEntries r
def uptoBulkEntry {H : Type} : Lit × DataW H → Nat
  | (.string bytes, d) => bytes.length + uptoBulk d + 1
  | (_, d) => uptoBulk d + 1
 end
def uptoSmall : (H : Type) → List (DataW H) → Bool := fun _ ds => decide (uptoBulkAll ds ≤ 1048576)
def OpenSpec.upto (s : _root_.Go.ChangeSpec) : _root_.Go.OpenSpec := { _root_.Go.OpenSpec.ofChange s with cond := some uptoSmall }

/-- 'carousellaw13.LossSays', WHERE WHAT IT READS IS OF BULK AT MOST 1048576: true; the input reads as it did. -/
def lossSaysUptoRow : OpenClaim := { program := "ytoicgngppmpapaagreat", sum := "16ab227ea3e34ec0863649b40260b770a885504afd40e88dacd88207eba5b6c7", func := "carousel/carousellaw13.LossSays", spec := "lossSays", inPlace := ["math/bits.Add64", "math/bits.Sub64"], unfollowed := true, recurses := true, named := ["math/bits.divideError", "math/bits.overflowError"], apart := false, narrowed := true }
def LossSaysUptoSaid : Prop := lossSaysUptoRow.holds Tryz.pinned (OpenSpec.upto lossSaysSpec)

/-- 'carousellaw14.GradSays', WHERE WHAT IT READS IS OF BULK AT MOST 1048576: true; the input reads as it did. -/
def gradSaysUptoRow : OpenClaim := { program := "ytoicgngppmpapaagreat", sum := "16ab227ea3e34ec0863649b40260b770a885504afd40e88dacd88207eba5b6c7", func := "carousel/carousellaw14.GradSays", spec := "gradSays", inPlace := ["math/bits.Add64", "math/bits.Sub64"], unfollowed := true, recurses := true, named := ["math/bits.divideError", "math/bits.overflowError"], apart := false, narrowed := true }
def GradSaysUptoSaid : Prop := gradSaysUptoRow.holds Tryz.pinned (OpenSpec.upto gradSaysSpec)

/-- 'carousellaw14.GradSums', WHERE WHAT IT READS IS OF BULK AT MOST 1048576: true; the input reads as it did. -/
def gradSumsUptoRow : OpenClaim := { program := "ytoicgngppmpapaagreat", sum := "16ab227ea3e34ec0863649b40260b770a885504afd40e88dacd88207eba5b6c7", func := "carousel/carousellaw14.GradSums", spec := "gradSums", inPlace := ["math/bits.Add64", "math/bits.Sub64"], unfollowed := true, recurses := true, named := ["math/bits.divideError", "math/bits.overflowError"], apart := false, narrowed := true }
def GradSumsUptoSaid : Prop := gradSumsUptoRow.holds Tryz.pinned (OpenSpec.upto gradSumsSpec)

/-- 'carousellaw14.GradTurns', WHERE WHAT IT READS IS OF BULK AT MOST 1048576: true; the input reads as it did. -/
def gradTurnsUptoRow : OpenClaim := { program := "ytoicgngppmpapaagreat", sum := "16ab227ea3e34ec0863649b40260b770a885504afd40e88dacd88207eba5b6c7", func := "carousel/carousellaw14.GradTurns", spec := "gradTurns", inPlace := ["math/bits.Add64", "math/bits.Sub64"], unfollowed := true, recurses := true, named := ["math/bits.divideError", "math/bits.overflowError"], apart := false, narrowed := true }
def GradTurnsUptoSaid : Prop := gradTurnsUptoRow.holds Tryz.pinned (OpenSpec.upto gradTurnsSpec)

/-- 'carousellaw14.GradParts', WHERE WHAT IT READS IS OF BULK AT MOST 1048576: true; the input reads as it did. -/
def gradPartsUptoRow : OpenClaim := { program := "ytoicgngppmpapaagreat", sum := "16ab227ea3e34ec0863649b40260b770a885504afd40e88dacd88207eba5b6c7", func := "carousel/carousellaw14.GradParts", spec := "gradParts", inPlace := ["math/bits.Add64", "math/bits.Sub64"], unfollowed := true, recurses := true, named := ["math/bits.divideError", "math/bits.overflowError"], apart := false, narrowed := true }
def GradPartsUptoSaid : Prop := gradPartsUptoRow.holds Tryz.pinned (OpenSpec.upto gradPartsSpec)

/-- 'carousellaw14.GradTwice', WHERE WHAT IT READS IS OF BULK AT MOST 1048576: true; the input reads as it did. -/
def gradTwiceUptoRow : OpenClaim := { program := "ytoicgngppmpapaagreat", sum := "16ab227ea3e34ec0863649b40260b770a885504afd40e88dacd88207eba5b6c7", func := "carousel/carousellaw14.GradTwice", spec := "gradTwice", inPlace := ["math/bits.Add64", "math/bits.Sub64"], unfollowed := true, recurses := true, named := ["math/bits.divideError", "math/bits.overflowError"], apart := false, narrowed := true }
def GradTwiceUptoSaid : Prop := gradTwiceUptoRow.holds Tryz.pinned (OpenSpec.upto gradTwiceSpec)

/-- 'carousellaw17.SoloKnown', WHERE WHAT IT READS IS OF BULK AT MOST 1048576: true; the input reads as it did. -/
def soloKnownUptoRow : OpenClaim := { program := "ytoicgngppmpapaagreat", sum := "16ab227ea3e34ec0863649b40260b770a885504afd40e88dacd88207eba5b6c7", func := "carousel/carousellaw17.SoloKnown", spec := "soloKnown", inPlace := ["math/bits.Add64", "math/bits.Sub64"], unfollowed := true, recurses := true, named := ["math/bits.divideError", "math/bits.overflowError"], apart := false, narrowed := true }
def SoloKnownUptoSaid : Prop := soloKnownUptoRow.holds Tryz.pinned (OpenSpec.upto soloKnownSpec)

/-- 'carousellaw17.SoloGood', WHERE WHAT IT READS IS OF BULK AT MOST 1048576: true; the input reads as it did. -/
def soloGoodUptoRow : OpenClaim := { program := "ytoicgngppmpapaagreat", sum := "16ab227ea3e34ec0863649b40260b770a885504afd40e88dacd88207eba5b6c7", func := "carousel/carousellaw17.SoloGood", spec := "soloGood", inPlace := ["math/bits.Add64", "math/bits.Sub64"], unfollowed := true, recurses := true, named := ["math/bits.divideError", "math/bits.overflowError"], apart := false, narrowed := true }
def SoloGoodUptoSaid : Prop := soloGoodUptoRow.holds Tryz.pinned (OpenSpec.upto soloGoodSpec)

/-- 'carousellaw17.SoloTwice', WHERE WHAT IT READS IS OF BULK AT MOST 1048576: true; the input reads as it did. -/
def soloTwiceUptoRow : OpenClaim := { program := "ytoicgngppmpapaagreat", sum := "16ab227ea3e34ec0863649b40260b770a885504afd40e88dacd88207eba5b6c7", func := "carousel/carousellaw17.SoloTwice", spec := "soloTwice", inPlace := ["math/bits.Add64", "math/bits.Sub64"], unfollowed := true, recurses := true, named := ["math/bits.divideError", "math/bits.overflowError"], apart := false, narrowed := true }
def SoloTwiceUptoSaid : Prop := soloTwiceUptoRow.holds Tryz.pinned (OpenSpec.upto soloTwiceSpec)

/-- 'carousellaw17.SoloTurns', WHERE WHAT IT READS IS OF BULK AT MOST 1048576: true; the input reads as it did. -/
def soloTurnsUptoRow : OpenClaim := { program := "ytoicgngppmpapaagreat", sum := "16ab227ea3e34ec0863649b40260b770a885504afd40e88dacd88207eba5b6c7", func := "carousel/carousellaw17.SoloTurns", spec := "soloTurns", inPlace := ["math/bits.Add64", "math/bits.Sub64"], unfollowed := true, recurses := true, named := ["math/bits.divideError", "math/bits.overflowError"], apart := false, narrowed := true }
def SoloTurnsUptoSaid : Prop := soloTurnsUptoRow.holds Tryz.pinned (OpenSpec.upto soloTurnsSpec)

/-- 'carousellaw17.SoloSteps', WHERE WHAT IT READS IS OF BULK AT MOST 1048576: true; the input reads as it did. -/
def soloStepsUptoRow : OpenClaim := { program := "ytoicgngppmpapaagreat", sum := "16ab227ea3e34ec0863649b40260b770a885504afd40e88dacd88207eba5b6c7", func := "carousel/carousellaw17.SoloSteps", spec := "soloSteps", inPlace := ["math/bits.Add64", "math/bits.Sub64"], unfollowed := true, recurses := true, named := ["math/bits.divideError", "math/bits.overflowError"], apart := false, narrowed := true }
def SoloStepsUptoSaid : Prop := soloStepsUptoRow.holds Tryz.pinned (OpenSpec.upto soloStepsSpec)

/-- 'carousellaw17.SoloLearns', WHERE WHAT IT READS IS OF BULK AT MOST 1048576: true; the input reads as it did. -/
def soloLearnsUptoRow : OpenClaim := { program := "ytoicgngppmpapaagreat", sum := "16ab227ea3e34ec0863649b40260b770a885504afd40e88dacd88207eba5b6c7", func := "carousel/carousellaw17.SoloLearns", spec := "soloLearns", inPlace := ["math/bits.Add64", "math/bits.Sub64"], unfollowed := true, recurses := true, named := ["math/bits.divideError", "math/bits.overflowError"], apart := false, narrowed := true }
def SoloLearnsUptoSaid : Prop := soloLearnsUptoRow.holds Tryz.pinned (OpenSpec.upto soloLearnsSpec)

end Rows
end Go.Proofs.YtoicgngppmpapaaGreat
