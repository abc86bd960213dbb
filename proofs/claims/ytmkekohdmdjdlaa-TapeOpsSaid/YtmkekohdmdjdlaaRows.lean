/-
  No cell of these rows narrows 'for every input' (looked for: loops, veiled, ifaces, maps, wideKeys, modest, calm, conditions, laid).
  DERIVED. THE GIVEN ROWS OF THIS SEAT. 10 by the template 'for every input the law returns true; each argument reads behind the call as it read before'; 0 by the template 'total and deterministic' (their statements: YtmkekohdmdjdlaaTotals.lean).
  GIVEN WITH THE SEED: the statements are not yours to turn. If you find one false, say at which input.
  Laid BY PROGRAM, IN A SANDBOX (cutbox-rows.mjs): the forced cells as the released guide's own fill.sh prints them over the translation eec4106794960a95… (all of the seat's roots in one cut). By AI agents, Wed Nov 11 2026. No macro, syntax, notation, axiom, sorry.
-/
import Derived.Test.YtmkekohdmdjdlaaChecked
import GoSem.Claim
import GoSem.ClaimJoined
import GoSem.ClaimMapViews
import Derived.JoinedTies
import Derived.KernelRfl
namespace Go.Proofs.Ytmkekohdmdjdlaa
/- THE CELL 'sum', in the pinned program and in every row, IS THE sha256 OF THE DUMP (.gsa) THAT YtmkekohdmdjdlaaProg.lean LOADS. Nothing in Lean hashes anything: it is a label: what it is worth is what the hold of that sum in a sandbox is worth. -/
noncomputable def Try.pinned : Pinned := { name := "ytmkekohdmdjdlaa", sum := "eec4106794960a95847535122ad21f6d53744ae829f3b032707d19d62cccd30b", checked := Try.checked }
namespace Rows
def none {H : Type} : Left H := { results := [], args := [] }

/-- 'carousellaw7.MatmDots': WHATEVER THE INPUT: true; the input reads as it did. -/
def matmDotsSpec : ChangeSpec := { name := "matmDots", fn := fun _ => fun
  | [d1, d2] => { results := [.lit (.bool true)], args := [d1, d2] }
  | _ => none }
def matmDotsRow : OpenClaim := { program := "ytmkekohdmdjdlaa", sum := "eec4106794960a95847535122ad21f6d53744ae829f3b032707d19d62cccd30b", func := "carousel/carousellaw7.MatmDots", spec := "matmDots", inPlace := ["math/bits.Sub64", "math/bits.Add64"], apart := false }
def MatmDotsSaid : Prop := matmDotsRow.holds Try.pinned (OpenSpec.ofChange matmDotsSpec)

/-- ITS FALSE NEIGHBOUR: 'it returns false'. Refute it at one input. -/
def matmDotsWrong : ChangeSpec := { name := "matmDots", fn := fun _ => fun
  | [d1, d2] => { results := [.lit (.bool false)], args := [d1, d2] }
  | _ => none }
def MatmDotsWrongFalsely : Prop := matmDotsRow.holds Try.pinned (OpenSpec.ofChange matmDotsWrong)

/-- 'carousellaw7.MatmFlips': WHATEVER THE INPUT: true; the input reads as it did. -/
def matmFlipsSpec : ChangeSpec := { name := "matmFlips", fn := fun _ => fun
  | [d1, d2] => { results := [.lit (.bool true)], args := [d1, d2] }
  | _ => none }
def matmFlipsRow : OpenClaim := { program := "ytmkekohdmdjdlaa", sum := "eec4106794960a95847535122ad21f6d53744ae829f3b032707d19d62cccd30b", func := "carousel/carousellaw7.MatmFlips", spec := "matmFlips", inPlace := ["math/bits.Sub64", "math/bits.Add64"], apart := false }
def MatmFlipsSaid : Prop := matmFlipsRow.holds Try.pinned (OpenSpec.ofChange matmFlipsSpec)

/-- ITS FALSE NEIGHBOUR: 'it returns false'. Refute it at one input. -/
def matmFlipsWrong : ChangeSpec := { name := "matmFlips", fn := fun _ => fun
  | [d1, d2] => { results := [.lit (.bool false)], args := [d1, d2] }
  | _ => none }
def MatmFlipsWrongFalsely : Prop := matmFlipsRow.holds Try.pinned (OpenSpec.ofChange matmFlipsWrong)

/-- 'carousellaw7.MatmOnes': WHATEVER THE INPUT: true; the input reads as it did. -/
def matmOnesSpec : ChangeSpec := { name := "matmOnes", fn := fun _ => fun
  | [d] => { results := [.lit (.bool true)], args := [d] }
  | _ => none }
def matmOnesRow : OpenClaim := { program := "ytmkekohdmdjdlaa", sum := "eec4106794960a95847535122ad21f6d53744ae829f3b032707d19d62cccd30b", func := "carousel/carousellaw7.MatmOnes", spec := "matmOnes", inPlace := ["math/bits.Sub64", "math/bits.Add64"], apart := false }
def MatmOnesSaid : Prop := matmOnesRow.holds Try.pinned (OpenSpec.ofChange matmOnesSpec)

/-- ITS FALSE NEIGHBOUR: 'it returns false'. Refute it at one input. -/
def matmOnesWrong : ChangeSpec := { name := "matmOnes", fn := fun _ => fun
  | [d] => { results := [.lit (.bool false)], args := [d] }
  | _ => none }
def MatmOnesWrongFalsely : Prop := matmOnesRow.holds Try.pinned (OpenSpec.ofChange matmOnesWrong)

/-- 'carousellaw7.MatmRows': WHATEVER THE INPUT: true; the input reads as it did. -/
def matmRowsSpec : ChangeSpec := { name := "matmRows", fn := fun _ => fun
  | [d1, d2, d3, d4] => { results := [.lit (.bool true)], args := [d1, d2, d3, d4] }
  | _ => none }
def matmRowsRow : OpenClaim := { program := "ytmkekohdmdjdlaa", sum := "eec4106794960a95847535122ad21f6d53744ae829f3b032707d19d62cccd30b", func := "carousel/carousellaw7.MatmRows", spec := "matmRows", inPlace := ["math/bits.Sub64", "math/bits.Add64"], apart := false }
def MatmRowsSaid : Prop := matmRowsRow.holds Try.pinned (OpenSpec.ofChange matmRowsSpec)

/-- ITS FALSE NEIGHBOUR: 'it returns false'. Refute it at one input. -/
def matmRowsWrong : ChangeSpec := { name := "matmRows", fn := fun _ => fun
  | [d1, d2, d3, d4] => { results := [.lit (.bool false)], args := [d1, d2, d3, d4] }
  | _ => none }
def MatmRowsWrongFalsely : Prop := matmRowsRow.holds Try.pinned (OpenSpec.ofChange matmRowsWrong)

/-- 'carousellaw7.MatmKnown': WHATEVER THE INPUT: true; the input reads as it did. -/
def matmKnownSpec : ChangeSpec := { name := "matmKnown", fn := fun _ => fun
  | [] => { results := [.lit (.bool true)], args := [] }
  | _ => none }
def matmKnownRow : OpenClaim := { program := "ytmkekohdmdjdlaa", sum := "eec4106794960a95847535122ad21f6d53744ae829f3b032707d19d62cccd30b", func := "carousel/carousellaw7.MatmKnown", spec := "matmKnown", inPlace := ["math/bits.Sub64", "math/bits.Add64"], named := ["math/bits.divideError", "math/bits.overflowError"], apart := false }
def MatmKnownSaid : Prop := matmKnownRow.holds Try.pinned (OpenSpec.ofChange matmKnownSpec)

/-- ITS FALSE NEIGHBOUR: 'it returns false'. Refute it at one input. -/
def matmKnownWrong : ChangeSpec := { name := "matmKnown", fn := fun _ => fun
  | [] => { results := [.lit (.bool false)], args := [] }
  | _ => none }
def MatmKnownWrongFalsely : Prop := matmKnownRow.holds Try.pinned (OpenSpec.ofChange matmKnownWrong)

/-- 'carousellaw7.MatmAlike': WHATEVER THE INPUT: true; the input reads as it did. -/
def matmAlikeSpec : ChangeSpec := { name := "matmAlike", fn := fun _ => fun
  | [d1, d2] => { results := [.lit (.bool true)], args := [d1, d2] }
  | _ => none }
def matmAlikeRow : OpenClaim := { program := "ytmkekohdmdjdlaa", sum := "eec4106794960a95847535122ad21f6d53744ae829f3b032707d19d62cccd30b", func := "carousel/carousellaw7.MatmAlike", spec := "matmAlike", inPlace := ["math/bits.Sub64", "math/bits.Add64"], named := ["math/bits.divideError", "math/bits.overflowError"], apart := false }
def MatmAlikeSaid : Prop := matmAlikeRow.holds Try.pinned (OpenSpec.ofChange matmAlikeSpec)

/-- ITS FALSE NEIGHBOUR: 'it returns false'. Refute it at one input. -/
def matmAlikeWrong : ChangeSpec := { name := "matmAlike", fn := fun _ => fun
  | [d1, d2] => { results := [.lit (.bool false)], args := [d1, d2] }
  | _ => none }
def MatmAlikeWrongFalsely : Prop := matmAlikeRow.holds Try.pinned (OpenSpec.ofChange matmAlikeWrong)

/-- 'carousellaw10.TapeKnown': WHATEVER THE INPUT: true; the input reads as it did. -/
def tapeKnownSpec : ChangeSpec := { name := "tapeKnown", fn := fun _ => fun
  | [] => { results := [.lit (.bool true)], args := [] }
  | _ => none }
def tapeKnownRow : OpenClaim := { program := "ytmkekohdmdjdlaa", sum := "eec4106794960a95847535122ad21f6d53744ae829f3b032707d19d62cccd30b", func := "carousel/carousellaw10.TapeKnown", spec := "tapeKnown", inPlace := ["math/bits.Add64", "math/bits.Sub64"], unfollowed := true, recurses := true, named := ["math/bits.divideError", "math/bits.overflowError"], apart := false }
def TapeKnownSaid : Prop := tapeKnownRow.holds Try.pinned (OpenSpec.ofChange tapeKnownSpec)

/-- ITS FALSE NEIGHBOUR: 'it returns false'. Refute it at one input. -/
def tapeKnownWrong : ChangeSpec := { name := "tapeKnown", fn := fun _ => fun
  | [] => { results := [.lit (.bool false)], args := [] }
  | _ => none }
def TapeKnownWrongFalsely : Prop := tapeKnownRow.holds Try.pinned (OpenSpec.ofChange tapeKnownWrong)

/-- 'carousellaw10.TapeFull': WHATEVER THE INPUT: true; the input reads as it did. -/
def tapeFullSpec : ChangeSpec := { name := "tapeFull", fn := fun _ => fun
  | [d] => { results := [.lit (.bool true)], args := [d] }
  | _ => none }
def tapeFullRow : OpenClaim := { program := "ytmkekohdmdjdlaa", sum := "eec4106794960a95847535122ad21f6d53744ae829f3b032707d19d62cccd30b", func := "carousel/carousellaw10.TapeFull", spec := "tapeFull", inPlace := ["math/bits.Add64", "math/bits.Sub64"], unfollowed := true, recurses := true, named := ["math/bits.divideError", "math/bits.overflowError"], apart := false }
def TapeFullSaid : Prop := tapeFullRow.holds Try.pinned (OpenSpec.ofChange tapeFullSpec)

/-- ITS FALSE NEIGHBOUR: 'it returns false'. Refute it at one input. -/
def tapeFullWrong : ChangeSpec := { name := "tapeFull", fn := fun _ => fun
  | [d] => { results := [.lit (.bool false)], args := [d] }
  | _ => none }
def TapeFullWrongFalsely : Prop := tapeFullRow.holds Try.pinned (OpenSpec.ofChange tapeFullWrong)

/-- 'carousellaw10.TapeKeeps': WHATEVER THE INPUT: true; the input reads as it did. -/
def tapeKeepsSpec : ChangeSpec := { name := "tapeKeeps", fn := fun _ => fun
  | [d] => { results := [.lit (.bool true)], args := [d] }
  | _ => none }
def tapeKeepsRow : OpenClaim := { program := "ytmkekohdmdjdlaa", sum := "eec4106794960a95847535122ad21f6d53744ae829f3b032707d19d62cccd30b", func := "carousel/carousellaw10.TapeKeeps", spec := "tapeKeeps", inPlace := ["math/bits.Add64", "math/bits.Sub64"], unfollowed := true, recurses := true, named := ["math/bits.divideError", "math/bits.overflowError"], apart := false }
def TapeKeepsSaid : Prop := tapeKeepsRow.holds Try.pinned (OpenSpec.ofChange tapeKeepsSpec)

/-- ITS FALSE NEIGHBOUR: 'it returns false'. Refute it at one input. -/
def tapeKeepsWrong : ChangeSpec := { name := "tapeKeeps", fn := fun _ => fun
  | [d] => { results := [.lit (.bool false)], args := [d] }
  | _ => none }
def TapeKeepsWrongFalsely : Prop := tapeKeepsRow.holds Try.pinned (OpenSpec.ofChange tapeKeepsWrong)

/-- 'carousellaw10.TapeOps': WHATEVER THE INPUT: true; the input reads as it did. -/
def tapeOpsSpec : ChangeSpec := { name := "tapeOps", fn := fun _ => fun
  | [d1, d2, d3] => { results := [.lit (.bool true)], args := [d1, d2, d3] }
  | _ => none }
def tapeOpsRow : OpenClaim := { program := "ytmkekohdmdjdlaa", sum := "eec4106794960a95847535122ad21f6d53744ae829f3b032707d19d62cccd30b", func := "carousel/carousellaw10.TapeOps", spec := "tapeOps", inPlace := ["math/bits.Add64", "math/bits.Sub64"], unfollowed := true, recurses := true, named := ["math/bits.divideError", "math/bits.overflowError"], apart := false }
def TapeOpsSaid : Prop := tapeOpsRow.holds Try.pinned (OpenSpec.ofChange tapeOpsSpec)

/-- ITS FALSE NEIGHBOUR: 'it returns false'. Refute it at one input. -/
def tapeOpsWrong : ChangeSpec := { name := "tapeOps", fn := fun _ => fun
  | [d1, d2, d3] => { results := [.lit (.bool false)], args := [d1, d2, d3] }
  | _ => none }
def TapeOpsWrongFalsely : Prop := tapeOpsRow.holds Try.pinned (OpenSpec.ofChange tapeOpsWrong)

/- THE SECOND FORM. 'bulk': how many values and letters a reading holds, each counted each time it is reached (what is shared counts as often as it is met; a slice's spare places count too). A statement '..UptoSaid' is the law's where the arguments, and the package variables that the reading takes, are together of bulk at most 1048576: NARROWER than '..Said'. Prove '..Said' where nothing that the law and all that it calls make is longer than what came in: it says more and counts as full. Else prove '..UptoSaid'. A law counts once. -/
mutual
def uptoBulk {H : Type} : DataW H → Nat
  | .lit (.string bytes) => bytes.length + 1
  | .lit _ => 1
  | .nil => 1
  | .ptr d => uptoBulk d + 1
  | .slice elems spare => uptoBulkAll elems + uptoBulkAll spare + 1
  | .agg parts => uptoBulkAll parts + 1
  | .iface _ d => uptoBulk d + 1
  | .map entries => uptoBulkEntries entries + 1
  | .held _ => 1
def uptoBulkAll {H : Type} : List (DataW H) → Nat
  | [] => 0
  | d :: r => uptoBulk d + uptoBulkAll r
def uptoBulkEntries {H : Type} : List (Lit × DataW H) → Nat
  | [] => 0
  | x :: r => uptoBulkEntry x + uptoBulkEntries r
def uptoBulkEntry {H : Type} : Lit × DataW H → Nat
  | (.string bytes, d) => bytes.length + uptoBulk d + 1
  | (_, d) => uptoBulk d + 1
 end
def uptoSmall : (H : Type) → List (DataW H) → Bool := fun _ ds => decide (uptoBulkAll ds ≤ 1048576)
def OpenSpec.upto (s : _root_.Go.ChangeSpec) : _root_.Go.OpenSpec := { _root_.Go.OpenSpec.ofChange s with cond := some uptoSmall }

/-- 'carousellaw7.MatmDots', WHERE WHAT IT READS IS OF BULK AT MOST 1048576: true; the input reads as it did. -/
def matmDotsUptoRow : OpenClaim := { program := "ytmkekohdmdjdlaa", sum := "eec4106794960a95847535122ad21f6d53744ae829f3b032707d19d62cccd30b", func := "carousel/carousellaw7.MatmDots", spec := "matmDots", inPlace := ["math/bits.Sub64", "math/bits.Add64"], apart := false, narrowed := true }
def MatmDotsUptoSaid : Prop := matmDotsUptoRow.holds Try.pinned (OpenSpec.upto matmDotsSpec)

/-- 'carousellaw7.MatmFlips', WHERE WHAT IT READS IS OF BULK AT MOST 1048576: true; the input reads as it did. -/
def matmFlipsUptoRow : OpenClaim := { program := "ytmkekohdmdjdlaa", sum := "eec4106794960a95847535122ad21f6d53744ae829f3b032707d19d62cccd30b", func := "carousel/carousellaw7.MatmFlips", spec := "matmFlips", inPlace := ["math/bits.Sub64", "math/bits.Add64"], apart := false, narrowed := true }
def MatmFlipsUptoSaid : Prop := matmFlipsUptoRow.holds Try.pinned (OpenSpec.upto matmFlipsSpec)

/-- 'carousellaw7.MatmOnes', WHERE WHAT IT READS IS OF BULK AT MOST 1048576: true; the input reads as it did. -/
def matmOnesUptoRow : OpenClaim := { program := "ytmkekohdmdjdlaa", sum := "eec4106794960a95847535122ad21f6d53744ae829f3b032707d19d62cccd30b", func := "carousel/carousellaw7.MatmOnes", spec := "matmOnes", inPlace := ["math/bits.Sub64", "math/bits.Add64"], apart := false, narrowed := true }
def MatmOnesUptoSaid : Prop := matmOnesUptoRow.holds Try.pinned (OpenSpec.upto matmOnesSpec)

/-- 'carousellaw7.MatmRows', WHERE WHAT IT READS IS OF BULK AT MOST 1048576: true; the input reads as it did. -/
def matmRowsUptoRow : OpenClaim := { program := "ytmkekohdmdjdlaa", sum := "eec4106794960a95847535122ad21f6d53744ae829f3b032707d19d62cccd30b", func := "carousel/carousellaw7.MatmRows", spec := "matmRows", inPlace := ["math/bits.Sub64", "math/bits.Add64"], apart := false, narrowed := true }
def MatmRowsUptoSaid : Prop := matmRowsUptoRow.holds Try.pinned (OpenSpec.upto matmRowsSpec)

/-- 'carousellaw7.MatmKnown', WHERE WHAT IT READS IS OF BULK AT MOST 1048576: true; the input reads as it did. -/
def matmKnownUptoRow : OpenClaim := { program := "ytmkekohdmdjdlaa", sum := "eec4106794960a95847535122ad21f6d53744ae829f3b032707d19d62cccd30b", func := "carousel/carousellaw7.MatmKnown", spec := "matmKnown", inPlace := ["math/bits.Sub64", "math/bits.Add64"], named := ["math/bits.divideError", "math/bits.overflowError"], apart := false, narrowed := true }
def MatmKnownUptoSaid : Prop := matmKnownUptoRow.holds Try.pinned (OpenSpec.upto matmKnownSpec)

/-- 'carousellaw7.MatmAlike', WHERE WHAT IT READS IS OF BULK AT MOST 1048576: true; the input reads as it did. -/
def matmAlikeUptoRow : OpenClaim := { program := "ytmkekohdmdjdlaa", sum := "eec4106794960a95847535122ad21f6d53744ae829f3b032707d19d62cccd30b", func := "carousel/carousellaw7.MatmAlike", spec := "matmAlike", inPlace := ["math/bits.Sub64", "math/bits.Add64"], named := ["math/bits.divideError", "math/bits.overflowError"], apart := false, narrowed := true }
def MatmAlikeUptoSaid : Prop := matmAlikeUptoRow.holds Try.pinned (OpenSpec.upto matmAlikeSpec)

/-- 'carousellaw10.TapeKnown', WHERE WHAT IT READS IS OF BULK AT MOST 1048576: true; the input reads as it did. -/
def tapeKnownUptoRow : OpenClaim := { program := "ytmkekohdmdjdlaa", sum := "eec4106794960a95847535122ad21f6d53744ae829f3b032707d19d62cccd30b", func := "carousel/carousellaw10.TapeKnown", spec := "tapeKnown", inPlace := ["math/bits.Add64", "math/bits.Sub64"], unfollowed := true, recurses := true, named := ["math/bits.divideError", "math/bits.overflowError"], apart := false, narrowed := true }
def TapeKnownUptoSaid : Prop := tapeKnownUptoRow.holds Try.pinned (OpenSpec.upto tapeKnownSpec)

/-- 'carousellaw10.TapeFull', WHERE WHAT IT READS IS OF BULK AT MOST 1048576: true; the input reads as it did. -/
def tapeFullUptoRow : OpenClaim := { program := "ytmkekohdmdjdlaa", sum := "eec4106794960a95847535122ad21f6d53744ae829f3b032707d19d62cccd30b", func := "carousel/carousellaw10.TapeFull", spec := "tapeFull", inPlace := ["math/bits.Add64", "math/bits.Sub64"], unfollowed := true, recurses := true, named := ["math/bits.divideError", "math/bits.overflowError"], apart := false, narrowed := true }
def TapeFullUptoSaid : Prop := tapeFullUptoRow.holds Try.pinned (OpenSpec.upto tapeFullSpec)

/-- 'carousellaw10.TapeKeeps', WHERE WHAT IT READS IS OF BULK AT MOST 1048576: true; the input reads as it did. -/
def tapeKeepsUptoRow : OpenClaim := { program := "ytmkekohdmdjdlaa", sum := "eec4106794960a95847535122ad21f6d53744ae829f3b032707d19d62cccd30b", func := "carousel/carousellaw10.TapeKeeps", spec := "tapeKeeps", inPlace := ["math/bits.Add64", "math/bits.Sub64"], unfollowed := true, recurses := true, named := ["math/bits.divideError", "math/bits.overflowError"], apart := false, narrowed := true }
def TapeKeepsUptoSaid : Prop := tapeKeepsUptoRow.holds Try.pinned (OpenSpec.upto tapeKeepsSpec)

/-- 'carousellaw10.TapeOps', WHERE WHAT IT READS IS OF BULK AT MOST 1048576: true; the input reads as it did. -/
def tapeOpsUptoRow : OpenClaim := { program := "ytmkekohdmdjdlaa", sum := "eec4106794960a95847535122ad21f6d53744ae829f3b032707d19d62cccd30b", func := "carousel/carousellaw10.TapeOps", spec := "tapeOps", inPlace := ["math/bits.Add64", "math/bits.Sub64"], unfollowed := true, recurses := true, named := ["math/bits.divideError", "math/bits.overflowError"], apart := false, narrowed := true }
def TapeOpsUptoSaid : Prop := tapeOpsUptoRow.holds Try.pinned (OpenSpec.upto tapeOpsSpec)

end Rows
end Go.Proofs.Ytmkekohdmdjdlaa
