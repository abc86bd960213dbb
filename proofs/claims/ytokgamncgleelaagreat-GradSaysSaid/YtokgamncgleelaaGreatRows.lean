/-
  No cell of these rows narrows 'for every input' (looked for: loops, veiled, ifaces, maps, wideKeys, modest, calm, conditions, laid).
  DERIVED. THE GIVEN ROWS OF THIS SEAT. 4 by the template 'for every input the law returns true; each argument reads behind the call as it read before'; 0 by the template 'total and deterministic' (their statements: YtokgamncgleelaaGreatTotals.lean).
  GIVEN WITH THE SEED: the statements are not yours to turn. If you find one false, say at which input.
  Laid BY PROGRAM, IN A SANDBOX (cutbox-rows.mjs): the forced cells as the released guide's own fill.sh prints them over the translation 543a079efef9f2d9… (all of the seat's roots in one cut). By AI agents, Wed Nov 11 2026. No macro, syntax, notation, axiom, sorry.
-/
import Derived.Test.YtokgamncgleelaaGreatChecked
import GoSem.Claim
import GoSem.ClaimJoined
import GoSem.ClaimMapViews
import Derived.JoinedTies
import Derived.KernelRfl
namespace Go.Proofs.YtokgamncgleelaaGreat
/- THE CELL 'sum', in the pinned program and in every row, IS THE sha256 OF THE DUMP (.gsa) THAT YtokgamncgleelaaGreatProg.lean LOADS. Nothing in Lean hashes anything: it is a label: what it is worth is what the hold of that sum in a sandbox is worth. -/
noncomputable def Tryz.pinned : Pinned := { name := "ytokgamncgleelaagreat", sum := "543a079efef9f2d9ff9a597890d3bcd62beacbd2fa7cb210a5ece832032a9316", checked := Tryz.checked }
namespace Rows
def none {H : Type} : Left H := { results := [], args := [] }

/-- 'carousellaw14.GradSays': WHATEVER THE INPUT: true; the input reads as it did. -/
def gradSaysSpec : ChangeSpec := { name := "gradSays", fn := fun _ => fun
  | [d1, d2, d3, d4] => { results := [.lit (.bool true)], args := [d1, d2, d3, d4] }
  | _ => none }
def gradSaysRow : OpenClaim := { program := "ytokgamncgleelaagreat", sum := "543a079efef9f2d9ff9a597890d3bcd62beacbd2fa7cb210a5ece832032a9316", func := "carousel/carousellaw14.GradSays", spec := "gradSays", inPlace := ["math/bits.Add64", "math/bits.Sub64"], unfollowed := true, recurses := true, named := ["math/bits.divideError", "math/bits.overflowError"], apart := false }
def GradSaysSaid : Prop := gradSaysRow.holds Tryz.pinned (OpenSpec.ofChange gradSaysSpec)

/-- ITS FALSE NEIGHBOUR: 'it returns false'. Refute it at one input. -/
def gradSaysWrong : ChangeSpec := { name := "gradSays", fn := fun _ => fun
  | [d1, d2, d3, d4] => { results := [.lit (.bool false)], args := [d1, d2, d3, d4] }
  | _ => none }
def GradSaysWrongFalsely : Prop := gradSaysRow.holds Tryz.pinned (OpenSpec.ofChange gradSaysWrong)

/-- 'carousellaw14.GradSums': WHATEVER THE INPUT: true; the input reads as it did. -/
def gradSumsSpec : ChangeSpec := { name := "gradSums", fn := fun _ => fun
  | [d1, d2, d3, d4] => { results := [.lit (.bool true)], args := [d1, d2, d3, d4] }
  | _ => none }
def gradSumsRow : OpenClaim := { program := "ytokgamncgleelaagreat", sum := "543a079efef9f2d9ff9a597890d3bcd62beacbd2fa7cb210a5ece832032a9316", func := "carousel/carousellaw14.GradSums", spec := "gradSums", inPlace := ["math/bits.Add64", "math/bits.Sub64"], unfollowed := true, recurses := true, named := ["math/bits.divideError", "math/bits.overflowError"], apart := false }
def GradSumsSaid : Prop := gradSumsRow.holds Tryz.pinned (OpenSpec.ofChange gradSumsSpec)

/-- ITS FALSE NEIGHBOUR: 'it returns false'. Refute it at one input. -/
def gradSumsWrong : ChangeSpec := { name := "gradSums", fn := fun _ => fun
  | [d1, d2, d3, d4] => { results := [.lit (.bool false)], args := [d1, d2, d3, d4] }
  | _ => none }
def GradSumsWrongFalsely : Prop := gradSumsRow.holds Tryz.pinned (OpenSpec.ofChange gradSumsWrong)

/-- 'carousellaw17.SoloGood': WHATEVER THE INPUT: true; the input reads as it did. -/
def soloGoodSpec : ChangeSpec := { name := "soloGood", fn := fun _ => fun
  | [d] => { results := [.lit (.bool true)], args := [d] }
  | _ => none }
def soloGoodRow : OpenClaim := { program := "ytokgamncgleelaagreat", sum := "543a079efef9f2d9ff9a597890d3bcd62beacbd2fa7cb210a5ece832032a9316", func := "carousel/carousellaw17.SoloGood", spec := "soloGood", inPlace := ["math/bits.Add64", "math/bits.Sub64"], unfollowed := true, recurses := true, named := ["math/bits.divideError", "math/bits.overflowError"], apart := false }
def SoloGoodSaid : Prop := soloGoodRow.holds Tryz.pinned (OpenSpec.ofChange soloGoodSpec)

/-- ITS FALSE NEIGHBOUR: 'it returns false'. Refute it at one input. -/
def soloGoodWrong : ChangeSpec := { name := "soloGood", fn := fun _ => fun
  | [d] => { results := [.lit (.bool false)], args := [d] }
  | _ => none }
def SoloGoodWrongFalsely : Prop := soloGoodRow.holds Tryz.pinned (OpenSpec.ofChange soloGoodWrong)

/-- 'carousellaw17.SoloSteps': WHATEVER THE INPUT: true; the input reads as it did. -/
def soloStepsSpec : ChangeSpec := { name := "soloSteps", fn := fun _ => fun
  | [d1, d2] => { results := [.lit (.bool true)], args := [d1, d2] }
  | _ => none }
def soloStepsRow : OpenClaim := { program := "ytokgamncgleelaagreat", sum := "543a079efef9f2d9ff9a597890d3bcd62beacbd2fa7cb210a5ece832032a9316", func := "carousel/carousellaw17.SoloSteps", spec := "soloSteps", inPlace := ["math/bits.Add64", "math/bits.Sub64"], unfollowed := true, recurses := true, named := ["math/bits.divideError", "math/bits.overflowError"], apart := false }
def SoloStepsSaid : Prop := soloStepsRow.holds Tryz.pinned (OpenSpec.ofChange soloStepsSpec)

/-- ITS FALSE NEIGHBOUR: 'it returns false'. Refute it at one input. -/
def soloStepsWrong : ChangeSpec := { name := "soloSteps", fn := fun _ => fun
  | [d1, d2] => { results := [.lit (.bool false)], args := [d1, d2] }
  | _ => none }
def SoloStepsWrongFalsely : Prop := soloStepsRow.holds Tryz.pinned (OpenSpec.ofChange soloStepsWrong)

/- THE SECOND FORM. 'bulk': how many values and letters a reading holds, each counted each time it is reached (what is shared counts as often as it is met; a slice's spare places count too). A statement '..UptoSaid' is the law's where the arguments, and the package variables that the reading takes, are together of bulk at most 1048576: NARROWER than '..Said'. Prove '..Said' where nothing that the law and all that it calls make is longer than what came in: it says more and counts as full. Else prove '..UptoSaid'. A law counts once. -/
mutual
def uptoBulk {H : Type} : DataW H → Nat
  | .lit (.string bytes) => bytes.length + 1
  | .lit _ => 1
  | .nil => 1
  | .ptr d => uptoBulk d + 1
  | .slice elems spare => uptoBulkAll elems + uptoBulkAll spare + 1
  | .agg parts => uptoBulkAll parts + 1
  | .iface _ d => uptoBulk d + 1
  | .map entries => uptoBulkEntries entries + 1
  | .held _ => 1
def uptoBulkAll {H : Type} : List (DataW H) → Nat
  | [] => 0
  | d :: r => uptoBulk d + uptoBulkAll r
def uptoBulkEntries {H : Type} : List (Lit × DataW H) → Nat
  | [] => 0
  | x :: r => uptoBulkEntry x + uptoBulkEntries r
def uptoBulkEntry {H : Type} : Lit × DataW H → Nat
  | (.string bytes, d) => bytes.length + uptoBulk d + 1
  | (_, d) => uptoBulk d + 1
 end
def uptoSmall : (H : Type) → List (DataW H) → Bool := fun _ ds => decide (uptoBulkAll ds ≤ 1048576)
def OpenSpec.upto (s : _root_.Go.ChangeSpec) : _root_.Go.OpenSpec := { _root_.Go.OpenSpec.ofChange s with cond := some uptoSmall }

/-- 'carousellaw14.GradSays', WHERE WHAT IT READS IS OF BULK AT MOST 1048576: true; the input reads as it did. -/
def gradSaysUptoRow : OpenClaim := { program := "ytokgamncgleelaagreat", sum := "543a079efef9f2d9ff9a597890d3bcd62beacbd2fa7cb210a5ece832032a9316", func := "carousel/carousellaw14.GradSays", spec := "gradSays", inPlace := ["math/bits.Add64", "math/bits.Sub64"], unfollowed := true, recurses := true, named := ["math/bits.divideError", "math/bits.overflowError"], apart := false, narrowed := true }
def GradSaysUptoSaid : Prop := gradSaysUptoRow.holds Tryz.pinned (OpenSpec.upto gradSaysSpec)

/-- 'carousellaw14.GradSums', WHERE WHAT IT READS IS OF BULK AT MOST 1048576: true; the input reads as it did. -/
def gradSumsUptoRow : OpenClaim := { program := "ytokgamncgleelaagreat", sum := "543a079efef9f2d9ff9a597890d3bcd62beacbd2fa7cb210a5ece832032a9316", func := "carousel/carousellaw14.GradSums", spec := "gradSums", inPlace := ["math/bits.Add64", "math/bits.Sub64"], unfollowed := true, recurses := true, named := ["math/bits.divideError", "math/bits.overflowError"], apart := false, narrowed := true }
def GradSumsUptoSaid : Prop := gradSumsUptoRow.holds Tryz.pinned (OpenSpec.upto gradSumsSpec)

/-- 'carousellaw17.SoloGood', WHERE WHAT IT READS IS OF BULK AT MOST 1048576: true; the input reads as it did. -/
def soloGoodUptoRow : OpenClaim := { program := "ytokgamncgleelaagreat", sum := "543a079efef9f2d9ff9a597890d3bcd62beacbd2fa7cb210a5ece832032a9316", func := "carousel/carousellaw17.SoloGood", spec := "soloGood", inPlace := ["math/bits.Add64", "math/bits.Sub64"], unfollowed := true, recurses := true, named := ["math/bits.divideError", "math/bits.overflowError"], apart := false, narrowed := true }
def SoloGoodUptoSaid : Prop := soloGoodUptoRow.holds Tryz.pinned (OpenSpec.upto soloGoodSpec)

/-- 'carousellaw17.SoloSteps', WHERE WHAT IT READS IS OF BULK AT MOST 1048576: true; the input reads as it did. -/
def soloStepsUptoRow : OpenClaim := { program := "ytokgamncgleelaagreat", sum := "543a079efef9f2d9ff9a597890d3bcd62beacbd2fa7cb210a5ece832032a9316", func := "carousel/carousellaw17.SoloSteps", spec := "soloSteps", inPlace := ["math/bits.Add64", "math/bits.Sub64"], unfollowed := true, recurses := true, named := ["math/bits.divideError", "math/bits.overflowError"], apart := false, narrowed := true }
def SoloStepsUptoSaid : Prop := soloStepsUptoRow.holds Tryz.pinned (OpenSpec.upto soloStepsSpec)

end Rows
end Go.Proofs.YtokgamncgleelaaGreat
