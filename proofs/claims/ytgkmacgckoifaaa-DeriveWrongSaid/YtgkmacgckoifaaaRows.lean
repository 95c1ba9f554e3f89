/-
  No cell of these rows narrows 'for every input' (looked for: loops, veiled, ifaces, maps, wideKeys, modest, calm, conditions, laid).
  DERIVED. THE GIVEN ROWS OF THIS SEAT. 7 by the template 'for every input the law returns true; each argument reads behind the call as it read before'; 0 by the template 'total and deterministic' (their statements: YtgkmacgckoifaaaTotals.lean).
  GIVEN WITH THE SEED: the statements are not yours to turn. If you find one false, say at which input.
  Laid BY PROGRAM, IN A SANDBOX (cutbox-rows.mjs): the forced cells as the released guide's own fill.sh prints them over the translation b3152c6cf884da38… (all of the seat's roots in one cut). By AI agents, Wed Nov 11 2026. No macro, syntax, notation, axiom, sorry.
-/
import Derived.Test.YtgkmacgckoifaaaChecked
import GoSem.Claim
import GoSem.ClaimJoined
import GoSem.ClaimMapViews
import Derived.JoinedTies
import Derived.KernelRfl
namespace Go.Proofs.Ytgkmacgckoifaaa
/- THE CELL 'sum', in the pinned program and in every row, IS THE sha256 OF THE DUMP (.gsa) THAT YtgkmacgckoifaaaProg.lean LOADS. Nothing in Lean hashes anything: it is a label: what it is worth is what the hold of that sum in a sandbox is worth. -/
noncomputable def Try.pinned : Pinned := { name := "ytgkmacgckoifaaa", sum := "b3152c6cf884da3814ba4d90421fe3be94e5b74edf61d5ac395fc6d1ffb10a1b", checked := Try.checked }
namespace Rows
def none {H : Type} : Left H := { results := [], args := [] }

/-- 'seizinlaw04.DeriveTells': WHATEVER THE INPUT: true; the input reads as it did. -/
def deriveTellsSpec : ChangeSpec := { name := "deriveTells", fn := fun _ => fun
  | [d1, d2, d3] => { results := [.lit (.bool true)], args := [d1, d2, d3] }
  | _ => none }
def deriveTellsRow : OpenClaim := { program := "ytgkmacgckoifaaa", sum := "b3152c6cf884da3814ba4d90421fe3be94e5b74edf61d5ac395fc6d1ffb10a1b", func := "seizin/seizinlaw04.DeriveTells", spec := "deriveTells", unfollowed := true, recurses := true, apart := false }
def DeriveTellsSaid : Prop := deriveTellsRow.holds Try.pinned (OpenSpec.ofChange deriveTellsSpec)

/-- ITS FALSE NEIGHBOUR: 'it returns false'. Refute it at one input. -/
def deriveTellsWrong : ChangeSpec := { name := "deriveTells", fn := fun _ => fun
  | [d1, d2, d3] => { results := [.lit (.bool false)], args := [d1, d2, d3] }
  | _ => none }
def DeriveTellsWrongFalsely : Prop := deriveTellsRow.holds Try.pinned (OpenSpec.ofChange deriveTellsWrong)

/-- 'seizinlaw04.DeriveSeals': WHATEVER THE INPUT: true; the input reads as it did. -/
def deriveSealsSpec : ChangeSpec := { name := "deriveSeals", fn := fun _ => fun
  | [d1, d2] => { results := [.lit (.bool true)], args := [d1, d2] }
  | _ => none }
def deriveSealsRow : OpenClaim := { program := "ytgkmacgckoifaaa", sum := "b3152c6cf884da3814ba4d90421fe3be94e5b74edf61d5ac395fc6d1ffb10a1b", func := "seizin/seizinlaw04.DeriveSeals", spec := "deriveSeals", unfollowed := true, recurses := true, apart := false }
def DeriveSealsSaid : Prop := deriveSealsRow.holds Try.pinned (OpenSpec.ofChange deriveSealsSpec)

/-- ITS FALSE NEIGHBOUR: 'it returns false'. Refute it at one input. -/
def deriveSealsWrong : ChangeSpec := { name := "deriveSeals", fn := fun _ => fun
  | [d1, d2] => { results := [.lit (.bool false)], args := [d1, d2] }
  | _ => none }
def DeriveSealsWrongFalsely : Prop := deriveSealsRow.holds Try.pinned (OpenSpec.ofChange deriveSealsWrong)

/-- 'seizinlaw04.DeriveLess': WHATEVER THE INPUT: true; the input reads as it did. -/
def deriveLessSpec : ChangeSpec := { name := "deriveLess", fn := fun _ => fun
  | [d1, d2, d3, d4] => { results := [.lit (.bool true)], args := [d1, d2, d3, d4] }
  | _ => none }
def deriveLessRow : OpenClaim := { program := "ytgkmacgckoifaaa", sum := "b3152c6cf884da3814ba4d90421fe3be94e5b74edf61d5ac395fc6d1ffb10a1b", func := "seizin/seizinlaw04.DeriveLess", spec := "deriveLess", unfollowed := true, recurses := true, apart := false }
def DeriveLessSaid : Prop := deriveLessRow.holds Try.pinned (OpenSpec.ofChange deriveLessSpec)

/-- ITS FALSE NEIGHBOUR: 'it returns false'. Refute it at one input. -/
def deriveLessWrong : ChangeSpec := { name := "deriveLess", fn := fun _ => fun
  | [d1, d2, d3, d4] => { results := [.lit (.bool false)], args := [d1, d2, d3, d4] }
  | _ => none }
def DeriveLessWrongFalsely : Prop := deriveLessRow.holds Try.pinned (OpenSpec.ofChange deriveLessWrong)

/-- 'seizinlaw04.DeriveBack': WHATEVER THE INPUT: true; the input reads as it did. -/
def deriveBackSpec : ChangeSpec := { name := "deriveBack", fn := fun _ => fun
  | [d1, d2, d3] => { results := [.lit (.bool true)], args := [d1, d2, d3] }
  | _ => none }
def deriveBackRow : OpenClaim := { program := "ytgkmacgckoifaaa", sum := "b3152c6cf884da3814ba4d90421fe3be94e5b74edf61d5ac395fc6d1ffb10a1b", func := "seizin/seizinlaw04.DeriveBack", spec := "deriveBack", unfollowed := true, recurses := true, apart := false }
def DeriveBackSaid : Prop := deriveBackRow.holds Try.pinned (OpenSpec.ofChange deriveBackSpec)

/-- ITS FALSE NEIGHBOUR: 'it returns false'. Refute it at one input. -/
def deriveBackWrong : ChangeSpec := { name := "deriveBack", fn := fun _ => fun
  | [d1, d2, d3] => { results := [.lit (.bool false)], args := [d1, d2, d3] }
  | _ => none }
def DeriveBackWrongFalsely : Prop := deriveBackRow.holds Try.pinned (OpenSpec.ofChange deriveBackWrong)

/-- 'seizinlaw04.DeriveTwice': WHATEVER THE INPUT: true; the input reads as it did. -/
def deriveTwiceSpec : ChangeSpec := { name := "deriveTwice", fn := fun _ => fun
  | [d1, d2, d3, d4, d5] => { results := [.lit (.bool true)], args := [d1, d2, d3, d4, d5] }
  | _ => none }
def deriveTwiceRow : OpenClaim := { program := "ytgkmacgckoifaaa", sum := "b3152c6cf884da3814ba4d90421fe3be94e5b74edf61d5ac395fc6d1ffb10a1b", func := "seizin/seizinlaw04.DeriveTwice", spec := "deriveTwice", unfollowed := true, recurses := true, apart := false }
def DeriveTwiceSaid : Prop := deriveTwiceRow.holds Try.pinned (OpenSpec.ofChange deriveTwiceSpec)

/-- ITS FALSE NEIGHBOUR: 'it returns false'. Refute it at one input. -/
def deriveTwiceWrong : ChangeSpec := { name := "deriveTwice", fn := fun _ => fun
  | [d1, d2, d3, d4, d5] => { results := [.lit (.bool false)], args := [d1, d2, d3, d4, d5] }
  | _ => none }
def DeriveTwiceWrongFalsely : Prop := deriveTwiceRow.holds Try.pinned (OpenSpec.ofChange deriveTwiceWrong)

/-- 'seizinlaw04.DeriveWrong': WHATEVER THE INPUT: true; the input reads as it did. -/
def deriveWrongSpec : ChangeSpec := { name := "deriveWrong", fn := fun _ => fun
  | [d1, d2, d3] => { results := [.lit (.bool true)], args := [d1, d2, d3] }
  | _ => none }
def deriveWrongRow : OpenClaim := { program := "ytgkmacgckoifaaa", sum := "b3152c6cf884da3814ba4d90421fe3be94e5b74edf61d5ac395fc6d1ffb10a1b", func := "seizin/seizinlaw04.DeriveWrong", spec := "deriveWrong", unfollowed := true, recurses := true, apart := false }
def DeriveWrongSaid : Prop := deriveWrongRow.holds Try.pinned (OpenSpec.ofChange deriveWrongSpec)

/-- ITS FALSE NEIGHBOUR: 'it returns false'. Refute it at one input. -/
def deriveWrongWrong : ChangeSpec := { name := "deriveWrong", fn := fun _ => fun
  | [d1, d2, d3] => { results := [.lit (.bool false)], args := [d1, d2, d3] }
  | _ => none }
def DeriveWrongWrongFalsely : Prop := deriveWrongRow.holds Try.pinned (OpenSpec.ofChange deriveWrongWrong)

/-- 'seizinlaw04.DeriveMoves': WHATEVER THE INPUT: true; the input reads as it did. -/
def deriveMovesSpec : ChangeSpec := { name := "deriveMoves", fn := fun _ => fun
  | [d1, d2, d3] => { results := [.lit (.bool true)], args := [d1, d2, d3] }
  | _ => none }
def deriveMovesRow : OpenClaim := { program := "ytgkmacgckoifaaa", sum := "b3152c6cf884da3814ba4d90421fe3be94e5b74edf61d5ac395fc6d1ffb10a1b", func := "seizin/seizinlaw04.DeriveMoves", spec := "deriveMoves", unfollowed := true, recurses := true, apart := false }
def DeriveMovesSaid : Prop := deriveMovesRow.holds Try.pinned (OpenSpec.ofChange deriveMovesSpec)

/-- ITS FALSE NEIGHBOUR: 'it returns false'. Refute it at one input. -/
def deriveMovesWrong : ChangeSpec := { name := "deriveMoves", fn := fun _ => fun
  | [d1, d2, d3] => { results := [.lit (.bool false)], args := [d1, d2, d3] }
  | _ => none }
def DeriveMovesWrongFalsely : Prop := deriveMovesRow.holds Try.pinned (OpenSpec.ofChange deriveMovesWrong)

/- THE SECOND FORM. 'bulk': how many values and letters a reading holds, each counted each time it is reached (what is shared counts as often as it is met; a slice's spare places count too). A statement '..UptoSaid' is the law's where the arguments, and the package variables that the reading takes, are together of bulk at most 1048576: NARROWER than '..Said'. Prove '..Said' where nothing that the law and all that it calls make is longer than what came in: it says more and counts as full. Else prove '..UptoSaid'. A law counts once. -/
mutual
def uptoBulk {H : Type} : DataW H → Nat
  | .lit (.string bytes) => bytes.length + 1
  | .lit _ => 1
  | .nil => 1
  | .ptr d => uptoBulk d + 1
  | .slice elems spare => uptoBulkAll elems + uptoBulkAll spare + 1
  | .agg parts => uptoBulkAll parts + 1
  | .iface _ d => uptoBulk d + 1
  | .map entries => uptoBulkEntries entries + 1
  | .held _ => 1
def uptoBulkAll {H : Type} : List (DataW H) → Nat
  | [] => 0
  | d :: r => uptoBulk d + uptoBulkAll r
def uptoBulkEntries {H : Type} : List (Lit × DataW H) → Nat
  | [] => 0
  | x :: r => uptoBulkEntry x + uptoBulkEntries r
def uptoBulkEntry {H : Type} : Lit × DataW H → Nat
  | (.string bytes, d) => bytes.length + uptoBulk d + 1
  | (_, d) => uptoBulk d + 1
 end
def uptoSmall : (H : Type) → List (DataW H) → Bool := fun _ ds => decide (uptoBulkAll ds ≤ 1048576)
def OpenSpec.upto (s : _root_.Go.ChangeSpec) : _root_.Go.OpenSpec := { _root_.Go.OpenSpec.ofChange s with cond := some uptoSmall }

/-- 'seizinlaw04.DeriveTells', WHERE WHAT IT READS IS OF BULK AT MOST 1048576: true; the input reads as it did. -/
def deriveTellsUptoRow : OpenClaim := { program := "ytgkmacgckoifaaa", sum := "b3152c6cf884da3814ba4d90421fe3be94e5b74edf61d5ac395fc6d1ffb10a1b", func := "seizin/seizinlaw04.DeriveTells", spec := "deriveTells", unfollowed := true, recurses := true, apart := false, narrowed := true }
def DeriveTellsUptoSaid : Prop := deriveTellsUptoRow.holds Try.pinned (OpenSpec.upto deriveTellsSpec)

/-- 'seizinlaw04.DeriveSeals', WHERE WHAT IT READS IS OF BULK AT MOST 1048576: true; the input reads as it did. -/
def deriveSealsUptoRow : OpenClaim := { program := "ytgkmacgckoifaaa", sum := "b3152c6cf884da3814ba4d90421fe3be94e5b74edf61d5ac395fc6d1ffb10a1b", func := "seizin/seizinlaw04.DeriveSeals", spec := "deriveSeals", unfollowed := true, recurses := true, apart := false, narrowed := true }
def DeriveSealsUptoSaid : Prop := deriveSealsUptoRow.holds Try.pinned (OpenSpec.upto deriveSealsSpec)

/-- 'seizinlaw04.DeriveLess', WHERE WHAT IT READS IS OF BULK AT MOST 1048576: true; the input reads as it did. -/
def deriveLessUptoRow : OpenClaim := { program := "ytgkmacgckoifaaa", sum := "b3152c6cf884da3814ba4d90421fe3be94e5b74edf61d5ac395fc6d1ffb10a1b", func := "seizin/seizinlaw04.DeriveLess", spec := "deriveLess", unfollowed := true, recurses := true, apart := false, narrowed := true }
def DeriveLessUptoSaid : Prop := deriveLessUptoRow.holds Try.pinned (OpenSpec.upto deriveLessSpec)

/-- 'seizinlaw04.DeriveBack', WHERE WHAT IT READS IS OF BULK AT MOST 1048576: true; the input reads as it did. -/
def deriveBackUptoRow : OpenClaim := { program := "ytgkmacgckoifaaa", sum := "b3152c6cf884da3814ba4d90421fe3be94e5b74edf61d5ac395fc6d1ffb10a1b", func := "seizin/seizinlaw04.DeriveBack", spec := "deriveBack", unfollowed := true, recurses := true, apart := false, narrowed := true }
def DeriveBackUptoSaid : Prop := deriveBackUptoRow.holds Try.pinned (OpenSpec.upto deriveBackSpec)

/-- 'seizinlaw04.DeriveTwice', WHERE WHAT IT READS IS OF BULK AT MOST 1048576: true; the input reads as it did. -/
def deriveTwiceUptoRow : OpenClaim := { program := "ytgkmacgckoifaaa", sum := "b3152c6cf884da3814ba4d90421fe3be94e5b74edf61d5ac395fc6d1ffb10a1b", func := "seizin/seizinlaw04.DeriveTwice", spec := "deriveTwice", unfollowed := true, recurses := true, apart := false, narrowed := true }
def DeriveTwiceUptoSaid : Prop := deriveTwiceUptoRow.holds Try.pinned (OpenSpec.upto deriveTwiceSpec)

/-- 'seizinlaw04.DeriveWrong', WHERE WHAT IT READS IS OF BULK AT MOST 1048576: true; the input reads as it did. -/
def deriveWrongUptoRow : OpenClaim := { program := "ytgkmacgckoifaaa", sum := "b3152c6cf884da3814ba4d90421fe3be94e5b74edf61d5ac395fc6d1ffb10a1b", func := "seizin/seizinlaw04.DeriveWrong", spec := "deriveWrong", unfollowed := true, recurses := true, apart := false, narrowed := true }
def DeriveWrongUptoSaid : Prop := deriveWrongUptoRow.holds Try.pinned (OpenSpec.upto deriveWrongSpec)

/-- 'seizinlaw04.DeriveMoves', WHERE WHAT IT READS IS OF BULK AT MOST 1048576: true; the input reads as it did. -/
def deriveMovesUptoRow : OpenClaim := { program := "ytgkmacgckoifaaa", sum := "b3152c6cf884da3814ba4d90421fe3be94e5b74edf61d5ac395fc6d1ffb10a1b", func := "seizin/seizinlaw04.DeriveMoves", spec := "deriveMoves", unfollowed := true, recurses := true, apart := false, narrowed := true }
def DeriveMovesUptoSaid : Prop := deriveMovesUptoRow.holds Try.pinned (OpenSpec.upto deriveMovesSpec)

end Rows
end Go.Proofs.Ytgkmacgckoifaaa
