/-
  No cell of these rows narrows 'for every input' (looked for: loops, veiled, ifaces, maps, wideKeys, modest, calm, conditions, laid).
  DERIVED. THE GIVEN ROWS OF THIS SEAT. 8 by the template 'for every input the law returns true; each argument reads behind the call as it read before'; 0 by the template 'total and deterministic' (their statements: YtijcniflghjoaaaTotals.lean).
  GIVEN WITH THE SEED: the statements are not yours to turn. If you find one false, say at which input.
  Laid BY PROGRAM, IN A SANDBOX (cutbox-rows.mjs): the forced cells as the released guide's own fill.sh prints them over the translation 238c5883e7e85124… (all of the seat's roots in one cut). By AI agents, Wed Nov 11 2026. No macro, syntax, notation, axiom, sorry.
-/
import Derived.Test.YtijcniflghjoaaaChecked
import GoSem.Claim
import GoSem.ClaimJoined
import GoSem.ClaimMapViews
import Derived.JoinedTies
import Derived.KernelRfl
namespace Go.Proofs.Ytijcniflghjoaaa
/- THE CELL 'sum', in the pinned program and in every row, IS THE sha256 OF THE DUMP (.gsa) THAT YtijcniflghjoaaaProg.lean LOADS. Nothing in Lean hashes anything: it is a label: what it is worth is what the hold of that sum in a sandbox is worth. -/
noncomputable def Try.pinned : Pinned := { name := "ytijcniflghjoaaa", sum := "238c5883e7e8512406395650cf3f37a2b76cbb3d7773c51353d0b9496cab9b84", checked := Try.checked }
namespace Rows
def none {H : Type} : Left H := { results := [], args := [] }

/-- 'seizinlaw19.FramesPlays': WHATEVER THE INPUT: true; the input reads as it did. -/
def framesPlaysSpec : ChangeSpec := { name := "framesPlays", fn := fun _ => fun
  | [d] => { results := [.lit (.bool true)], args := [d] }
  | _ => none }
def framesPlaysRow : OpenClaim := { program := "ytijcniflghjoaaa", sum := "238c5883e7e8512406395650cf3f37a2b76cbb3d7773c51353d0b9496cab9b84", func := "seizin/seizinlaw19.FramesPlays", spec := "framesPlays", unfollowed := true, recurses := true, apart := false }
def FramesPlaysSaid : Prop := framesPlaysRow.holds Try.pinned (OpenSpec.ofChange framesPlaysSpec)

/-- ITS FALSE NEIGHBOUR: 'it returns false'. Refute it at one input. -/
def framesPlaysWrong : ChangeSpec := { name := "framesPlays", fn := fun _ => fun
  | [d] => { results := [.lit (.bool false)], args := [d] }
  | _ => none }
def FramesPlaysWrongFalsely : Prop := framesPlaysRow.holds Try.pinned (OpenSpec.ofChange framesPlaysWrong)

/-- 'seizinlaw19.FramesStack': WHATEVER THE INPUT: true; the input reads as it did. -/
def framesStackSpec : ChangeSpec := { name := "framesStack", fn := fun _ => fun
  | [d] => { results := [.lit (.bool true)], args := [d] }
  | _ => none }
def framesStackRow : OpenClaim := { program := "ytijcniflghjoaaa", sum := "238c5883e7e8512406395650cf3f37a2b76cbb3d7773c51353d0b9496cab9b84", func := "seizin/seizinlaw19.FramesStack", spec := "framesStack", unfollowed := true, recurses := true, apart := false }
def FramesStackSaid : Prop := framesStackRow.holds Try.pinned (OpenSpec.ofChange framesStackSpec)

/-- ITS FALSE NEIGHBOUR: 'it returns false'. Refute it at one input. -/
def framesStackWrong : ChangeSpec := { name := "framesStack", fn := fun _ => fun
  | [d] => { results := [.lit (.bool false)], args := [d] }
  | _ => none }
def FramesStackWrongFalsely : Prop := framesStackRow.holds Try.pinned (OpenSpec.ofChange framesStackWrong)

/-- 'seizinlaw19.FramesPut': WHATEVER THE INPUT: true; the input reads as it did. -/
def framesPutSpec : ChangeSpec := { name := "framesPut", fn := fun _ => fun
  | [d1, d2, d3] => { results := [.lit (.bool true)], args := [d1, d2, d3] }
  | _ => none }
def framesPutRow : OpenClaim := { program := "ytijcniflghjoaaa", sum := "238c5883e7e8512406395650cf3f37a2b76cbb3d7773c51353d0b9496cab9b84", func := "seizin/seizinlaw19.FramesPut", spec := "framesPut", unfollowed := true, recurses := true, apart := false }
def FramesPutSaid : Prop := framesPutRow.holds Try.pinned (OpenSpec.ofChange framesPutSpec)

/-- ITS FALSE NEIGHBOUR: 'it returns false'. Refute it at one input. -/
def framesPutWrong : ChangeSpec := { name := "framesPut", fn := fun _ => fun
  | [d1, d2, d3] => { results := [.lit (.bool false)], args := [d1, d2, d3] }
  | _ => none }
def FramesPutWrongFalsely : Prop := framesPutRow.holds Try.pinned (OpenSpec.ofChange framesPutWrong)

/-- 'seizinlaw19.FramesFull': WHATEVER THE INPUT: true; the input reads as it did. -/
def framesFullSpec : ChangeSpec := { name := "framesFull", fn := fun _ => fun
  | [d1, d2, d3] => { results := [.lit (.bool true)], args := [d1, d2, d3] }
  | _ => none }
def framesFullRow : OpenClaim := { program := "ytijcniflghjoaaa", sum := "238c5883e7e8512406395650cf3f37a2b76cbb3d7773c51353d0b9496cab9b84", func := "seizin/seizinlaw19.FramesFull", spec := "framesFull", unfollowed := true, recurses := true, apart := false }
def FramesFullSaid : Prop := framesFullRow.holds Try.pinned (OpenSpec.ofChange framesFullSpec)

/-- ITS FALSE NEIGHBOUR: 'it returns false'. Refute it at one input. -/
def framesFullWrong : ChangeSpec := { name := "framesFull", fn := fun _ => fun
  | [d1, d2, d3] => { results := [.lit (.bool false)], args := [d1, d2, d3] }
  | _ => none }
def FramesFullWrongFalsely : Prop := framesFullRow.holds Try.pinned (OpenSpec.ofChange framesFullWrong)

/-- 'seizinlaw18.RegsPlays': WHATEVER THE INPUT: true; the input reads as it did. -/
def regsPlaysSpec : ChangeSpec := { name := "regsPlays", fn := fun _ => fun
  | [d1, d2] => { results := [.lit (.bool true)], args := [d1, d2] }
  | _ => none }
def regsPlaysRow : OpenClaim := { program := "ytijcniflghjoaaa", sum := "238c5883e7e8512406395650cf3f37a2b76cbb3d7773c51353d0b9496cab9b84", func := "seizin/seizinlaw18.RegsPlays", spec := "regsPlays", unfollowed := true, recurses := true, apart := false }
def RegsPlaysSaid : Prop := regsPlaysRow.holds Try.pinned (OpenSpec.ofChange regsPlaysSpec)

/-- ITS FALSE NEIGHBOUR: 'it returns false'. Refute it at one input. -/
def regsPlaysWrong : ChangeSpec := { name := "regsPlays", fn := fun _ => fun
  | [d1, d2] => { results := [.lit (.bool false)], args := [d1, d2] }
  | _ => none }
def RegsPlaysWrongFalsely : Prop := regsPlaysRow.holds Try.pinned (OpenSpec.ofChange regsPlaysWrong)

/-- 'seizinlaw18.RegsLast': WHATEVER THE INPUT: true; the input reads as it did. -/
def regsLastSpec : ChangeSpec := { name := "regsLast", fn := fun _ => fun
  | [d1, d2] => { results := [.lit (.bool true)], args := [d1, d2] }
  | _ => none }
def regsLastRow : OpenClaim := { program := "ytijcniflghjoaaa", sum := "238c5883e7e8512406395650cf3f37a2b76cbb3d7773c51353d0b9496cab9b84", func := "seizin/seizinlaw18.RegsLast", spec := "regsLast", unfollowed := true, recurses := true, apart := false }
def RegsLastSaid : Prop := regsLastRow.holds Try.pinned (OpenSpec.ofChange regsLastSpec)

/-- ITS FALSE NEIGHBOUR: 'it returns false'. Refute it at one input. -/
def regsLastWrong : ChangeSpec := { name := "regsLast", fn := fun _ => fun
  | [d1, d2] => { results := [.lit (.bool false)], args := [d1, d2] }
  | _ => none }
def RegsLastWrongFalsely : Prop := regsLastRow.holds Try.pinned (OpenSpec.ofChange regsLastWrong)

/-- 'seizinlaw18.RegsBack': WHATEVER THE INPUT: true; the input reads as it did. -/
def regsBackSpec : ChangeSpec := { name := "regsBack", fn := fun _ => fun
  | [d1, d2, d3] => { results := [.lit (.bool true)], args := [d1, d2, d3] }
  | _ => none }
def regsBackRow : OpenClaim := { program := "ytijcniflghjoaaa", sum := "238c5883e7e8512406395650cf3f37a2b76cbb3d7773c51353d0b9496cab9b84", func := "seizin/seizinlaw18.RegsBack", spec := "regsBack", unfollowed := true, recurses := true, apart := false }
def RegsBackSaid : Prop := regsBackRow.holds Try.pinned (OpenSpec.ofChange regsBackSpec)

/-- ITS FALSE NEIGHBOUR: 'it returns false'. Refute it at one input. -/
def regsBackWrong : ChangeSpec := { name := "regsBack", fn := fun _ => fun
  | [d1, d2, d3] => { results := [.lit (.bool false)], args := [d1, d2, d3] }
  | _ => none }
def RegsBackWrongFalsely : Prop := regsBackRow.holds Try.pinned (OpenSpec.ofChange regsBackWrong)

/-- 'seizinlaw18.RegsClear': WHATEVER THE INPUT: true; the input reads as it did. -/
def regsClearSpec : ChangeSpec := { name := "regsClear", fn := fun _ => fun
  | [d1, d2, d3] => { results := [.lit (.bool true)], args := [d1, d2, d3] }
  | _ => none }
def regsClearRow : OpenClaim := { program := "ytijcniflghjoaaa", sum := "238c5883e7e8512406395650cf3f37a2b76cbb3d7773c51353d0b9496cab9b84", func := "seizin/seizinlaw18.RegsClear", spec := "regsClear", unfollowed := true, recurses := true, apart := false }
def RegsClearSaid : Prop := regsClearRow.holds Try.pinned (OpenSpec.ofChange regsClearSpec)

/-- ITS FALSE NEIGHBOUR: 'it returns false'. Refute it at one input. -/
def regsClearWrong : ChangeSpec := { name := "regsClear", fn := fun _ => fun
  | [d1, d2, d3] => { results := [.lit (.bool false)], args := [d1, d2, d3] }
  | _ => none }
def RegsClearWrongFalsely : Prop := regsClearRow.holds Try.pinned (OpenSpec.ofChange regsClearWrong)

/- THE SECOND FORM. 'bulk': how many values and letters a reading holds, each counted each time it is reached (what is shared counts as often as it is met; a slice's spare places count too). A statement '..UptoSaid' is the law's where the arguments, and the package variables that the reading takes, are together of bulk at most 1048576: NARROWER than '..Said'. Prove '..Said' where nothing that the law and all that it calls make is longer than what came in: it says more and counts as full. Else prove '..UptoSaid'. A law counts once. -/
mutual
def uptoBulk {H : Type} : DataW H → Nat
  | .lit (.string bytes) => bytes.length + 1
  | .lit _ => 1
  | .nil => 1
  | .ptr d => uptoBulk d + 1
  | .slice elems spare => uptoBulkAll elems + uptoBulkAll spare + 1
  | .agg parts => uptoBulkAll parts + 1
  | .iface _ d => uptoBulk d + 1
  | .map entries => uptoBulkEntries entries + 1
  | .held _ => 1
def uptoBulkAll {H : Type} : List (DataW H) → Nat
  | [] => 0
  | d :: r => uptoBulk d + uptoBulkAll r
def uptoBulkEntries {H : Type} : List (Lit × DataW H) → Nat
  | [] => 0
  | x :: r => uptoBulkEntry x + uptoBulkEntries r
def uptoBulkEntry {H : Type} : Lit × DataW H → Nat
  | (.string bytes, d) => bytes.length + uptoBulk d + 1
  | (_, d) => uptoBulk d + 1
 end
def uptoSmall : (H : Type) → List (DataW H) → Bool := fun _ ds => decide (uptoBulkAll ds ≤ 1048576)
def OpenSpec.upto (s : _root_.Go.ChangeSpec) : _root_.Go.OpenSpec := { _root_.Go.OpenSpec.ofChange s with cond := some uptoSmall }

/-- 'seizinlaw19.FramesPlays', WHERE WHAT IT READS IS OF BULK AT MOST 1048576: true; the input reads as it did. -/
def framesPlaysUptoRow : OpenClaim := { program := "ytijcniflghjoaaa", sum := "238c5883e7e8512406395650cf3f37a2b76cbb3d7773c51353d0b9496cab9b84", func := "seizin/seizinlaw19.FramesPlays", spec := "framesPlays", unfollowed := true, recurses := true, apart := false, narrowed := true }
def FramesPlaysUptoSaid : Prop := framesPlaysUptoRow.holds Try.pinned (OpenSpec.upto framesPlaysSpec)

/-- 'seizinlaw19.FramesStack', WHERE WHAT IT READS IS OF BULK AT MOST 1048576: true; the input reads as it did. -/
def framesStackUptoRow : OpenClaim := { program := "ytijcniflghjoaaa", sum := "238c5883e7e8512406395650cf3f37a2b76cbb3d7773c51353d0b9496cab9b84", func := "seizin/seizinlaw19.FramesStack", spec := "framesStack", unfollowed := true, recurses := true, apart := false, narrowed := true }
def FramesStackUptoSaid : Prop := framesStackUptoRow.holds Try.pinned (OpenSpec.upto framesStackSpec)

/-- 'seizinlaw19.FramesPut', WHERE WHAT IT READS IS OF BULK AT MOST 1048576: true; the input reads as it did. -/
def framesPutUptoRow : OpenClaim := { program := "ytijcniflghjoaaa", sum := "238c5883e7e8512406395650cf3f37a2b76cbb3d7773c51353d0b9496cab9b84", func := "seizin/seizinlaw19.FramesPut", spec := "framesPut", unfollowed := true, recurses := true, apart := false, narrowed := true }
def FramesPutUptoSaid : Prop := framesPutUptoRow.holds Try.pinned (OpenSpec.upto framesPutSpec)

/-- 'seizinlaw19.FramesFull', WHERE WHAT IT READS IS OF BULK AT MOST 1048576: true; the input reads as it did. -/
def framesFullUptoRow : OpenClaim := { program := "ytijcniflghjoaaa", sum := "238c5883e7e8512406395650cf3f37a2b76cbb3d7773c51353d0b9496cab9b84", func := "seizin/seizinlaw19.FramesFull", spec := "framesFull", unfollowed := true, recurses := true, apart := false, narrowed := true }
def FramesFullUptoSaid : Prop := framesFullUptoRow.holds Try.pinned (OpenSpec.upto framesFullSpec)

/-- 'seizinlaw18.RegsPlays', WHERE WHAT IT READS IS OF BULK AT MOST 1048576: true; the input reads as it did. -/
def regsPlaysUptoRow : OpenClaim := { program := "ytijcniflghjoaaa", sum := "238c5883e7e8512406395650cf3f37a2b76cbb3d7773c51353d0b9496cab9b84", func := "seizin/seizinlaw18.RegsPlays", spec := "regsPlays", unfollowed := true, recurses := true, apart := false, narrowed := true }
def RegsPlaysUptoSaid : Prop := regsPlaysUptoRow.holds Try.pinned (OpenSpec.upto regsPlaysSpec)

/-- 'seizinlaw18.RegsLast', WHERE WHAT IT READS IS OF BULK AT MOST 1048576: true; the input reads as it did. -/
def regsLastUptoRow : OpenClaim := { program := "ytijcniflghjoaaa", sum := "238c5883e7e8512406395650cf3f37a2b76cbb3d7773c51353d0b9496cab9b84", func := "seizin/seizinlaw18.RegsLast", spec := "regsLast", unfollowed := true, recurses := true, apart := false, narrowed := true }
def RegsLastUptoSaid : Prop := regsLastUptoRow.holds Try.pinned (OpenSpec.upto regsLastSpec)

/-- 'seizinlaw18.RegsBack', WHERE WHAT IT READS IS OF BULK AT MOST 1048576: true; the input reads as it did. -/
def regsBackUptoRow : OpenClaim := { program := "ytijcniflghjoaaa", sum := "238c5883e7e8512406395650cf3f37a2b76cbb3d7773c51353d0b9496cab9b84", func := "seizin/seizinlaw18.RegsBack", spec := "regsBack", unfollowed := true, recurses := true, apart := false, narrowed := true }
def RegsBackUptoSaid : Prop := regsBackUptoRow.holds Try.pinned (OpenSpec.upto regsBackSpec)

/-- 'seizinlaw18.RegsClear', WHERE WHAT IT READS IS OF BULK AT MOST 1048576: true; the input reads as it did. -/
def regsClearUptoRow : OpenClaim := { program := "ytijcniflghjoaaa", sum := "238c5883e7e8512406395650cf3f37a2b76cbb3d7773c51353d0b9496cab9b84", func := "seizin/seizinlaw18.RegsClear", spec := "regsClear", unfollowed := true, recurses := true, apart := false, narrowed := true }
def RegsClearUptoSaid : Prop := regsClearUptoRow.holds Try.pinned (OpenSpec.upto regsClearSpec)

end Rows
end Go.Proofs.Ytijcniflghjoaaa
