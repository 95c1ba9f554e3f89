/-
  No cell of these rows narrows 'for every input' (looked for: loops, veiled, ifaces, maps, wideKeys, modest, calm, conditions, laid).
  DERIVED. THE GIVEN ROWS OF THIS SEAT. 12 by the template 'for every input the law returns true; each argument reads behind the call as it read before'; 0 by the template 'total and deterministic' (their statements: YtgilagbfgbgplaaTotals.lean).
  GIVEN WITH THE SEED: the statements are not yours to turn. If you find one false, say at which input.
  Laid BY PROGRAM, IN A SANDBOX (cutbox-rows.mjs): the forced cells as the released guide's own fill.sh prints them over the translation c6ddf342ed7eb98d… (all of the seat's roots in one cut). By AI agents, Wed Nov 11 2026. No macro, syntax, notation, axiom, sorry.
-/
import Derived.Test.YtgilagbfgbgplaaChecked
import GoSem.Claim
import GoSem.ClaimJoined
import GoSem.ClaimMapViews
import Derived.JoinedTies
import Derived.KernelRfl
namespace Go.Proofs.Ytgilagbfgbgplaa
/- THE CELL 'sum', in the pinned program and in every row, IS THE sha256 OF THE DUMP (.gsa) THAT YtgilagbfgbgplaaProg.lean LOADS. Nothing in Lean hashes anything: it is a label: what it is worth is what the hold of that sum in a sandbox is worth. -/
noncomputable def Try.pinned : Pinned := { name := "ytgilagbfgbgplaa", sum := "c6ddf342ed7eb98d83afd5c5dfdd77b64cb85c07501f8f9d91fd9d8120bcf35c", checked := Try.checked }
namespace Rows
def none {H : Type} : Left H := { results := [], args := [] }

/-- 'seizinlaw09.EpochPlays': WHATEVER THE INPUT: true; the input reads as it did. -/
def epochPlaysSpec : ChangeSpec := { name := "epochPlays", fn := fun _ => fun
  | [d1, d2] => { results := [.lit (.bool true)], args := [d1, d2] }
  | _ => none }
def epochPlaysRow : OpenClaim := { program := "ytgilagbfgbgplaa", sum := "c6ddf342ed7eb98d83afd5c5dfdd77b64cb85c07501f8f9d91fd9d8120bcf35c", func := "seizin/seizinlaw09.EpochPlays", spec := "epochPlays", unfollowed := true, recurses := true, apart := false }
def EpochPlaysSaid : Prop := epochPlaysRow.holds Try.pinned (OpenSpec.ofChange epochPlaysSpec)

/-- ITS FALSE NEIGHBOUR: 'it returns false'. Refute it at one input. -/
def epochPlaysWrong : ChangeSpec := { name := "epochPlays", fn := fun _ => fun
  | [d1, d2] => { results := [.lit (.bool false)], args := [d1, d2] }
  | _ => none }
def EpochPlaysWrongFalsely : Prop := epochPlaysRow.holds Try.pinned (OpenSpec.ofChange epochPlaysWrong)

/-- 'seizinlaw09.EpochWhole': WHATEVER THE INPUT: true; the input reads as it did. -/
def epochWholeSpec : ChangeSpec := { name := "epochWhole", fn := fun _ => fun
  | [d1, d2] => { results := [.lit (.bool true)], args := [d1, d2] }
  | _ => none }
def epochWholeRow : OpenClaim := { program := "ytgilagbfgbgplaa", sum := "c6ddf342ed7eb98d83afd5c5dfdd77b64cb85c07501f8f9d91fd9d8120bcf35c", func := "seizin/seizinlaw09.EpochWhole", spec := "epochWhole", unfollowed := true, recurses := true, apart := false }
def EpochWholeSaid : Prop := epochWholeRow.holds Try.pinned (OpenSpec.ofChange epochWholeSpec)

/-- ITS FALSE NEIGHBOUR: 'it returns false'. Refute it at one input. -/
def epochWholeWrong : ChangeSpec := { name := "epochWhole", fn := fun _ => fun
  | [d1, d2] => { results := [.lit (.bool false)], args := [d1, d2] }
  | _ => none }
def EpochWholeWrongFalsely : Prop := epochWholeRow.holds Try.pinned (OpenSpec.ofChange epochWholeWrong)

/-- 'seizinlaw09.EpochTurns': WHATEVER THE INPUT: true; the input reads as it did. -/
def epochTurnsSpec : ChangeSpec := { name := "epochTurns", fn := fun _ => fun
  | [d] => { results := [.lit (.bool true)], args := [d] }
  | _ => none }
def epochTurnsRow : OpenClaim := { program := "ytgilagbfgbgplaa", sum := "c6ddf342ed7eb98d83afd5c5dfdd77b64cb85c07501f8f9d91fd9d8120bcf35c", func := "seizin/seizinlaw09.EpochTurns", spec := "epochTurns", unfollowed := true, recurses := true, apart := false }
def EpochTurnsSaid : Prop := epochTurnsRow.holds Try.pinned (OpenSpec.ofChange epochTurnsSpec)

/-- ITS FALSE NEIGHBOUR: 'it returns false'. Refute it at one input. -/
def epochTurnsWrong : ChangeSpec := { name := "epochTurns", fn := fun _ => fun
  | [d] => { results := [.lit (.bool false)], args := [d] }
  | _ => none }
def EpochTurnsWrongFalsely : Prop := epochTurnsRow.holds Try.pinned (OpenSpec.ofChange epochTurnsWrong)

/-- 'seizinlaw09.EpochWhen': WHATEVER THE INPUT: true; the input reads as it did. -/
def epochWhenSpec : ChangeSpec := { name := "epochWhen", fn := fun _ => fun
  | [d1, d2] => { results := [.lit (.bool true)], args := [d1, d2] }
  | _ => none }
def epochWhenRow : OpenClaim := { program := "ytgilagbfgbgplaa", sum := "c6ddf342ed7eb98d83afd5c5dfdd77b64cb85c07501f8f9d91fd9d8120bcf35c", func := "seizin/seizinlaw09.EpochWhen", spec := "epochWhen", unfollowed := true, recurses := true, apart := false }
def EpochWhenSaid : Prop := epochWhenRow.holds Try.pinned (OpenSpec.ofChange epochWhenSpec)

/-- ITS FALSE NEIGHBOUR: 'it returns false'. Refute it at one input. -/
def epochWhenWrong : ChangeSpec := { name := "epochWhen", fn := fun _ => fun
  | [d1, d2] => { results := [.lit (.bool false)], args := [d1, d2] }
  | _ => none }
def EpochWhenWrongFalsely : Prop := epochWhenRow.holds Try.pinned (OpenSpec.ofChange epochWhenWrong)

/-- 'seizinlaw09.EpochOnce': WHATEVER THE INPUT: true; the input reads as it did. -/
def epochOnceSpec : ChangeSpec := { name := "epochOnce", fn := fun _ => fun
  | [d1, d2] => { results := [.lit (.bool true)], args := [d1, d2] }
  | _ => none }
def epochOnceRow : OpenClaim := { program := "ytgilagbfgbgplaa", sum := "c6ddf342ed7eb98d83afd5c5dfdd77b64cb85c07501f8f9d91fd9d8120bcf35c", func := "seizin/seizinlaw09.EpochOnce", spec := "epochOnce", unfollowed := true, recurses := true, apart := false }
def EpochOnceSaid : Prop := epochOnceRow.holds Try.pinned (OpenSpec.ofChange epochOnceSpec)

/-- ITS FALSE NEIGHBOUR: 'it returns false'. Refute it at one input. -/
def epochOnceWrong : ChangeSpec := { name := "epochOnce", fn := fun _ => fun
  | [d1, d2] => { results := [.lit (.bool false)], args := [d1, d2] }
  | _ => none }
def EpochOnceWrongFalsely : Prop := epochOnceRow.holds Try.pinned (OpenSpec.ofChange epochOnceWrong)

/-- 'seizinlaw02.CapTells': WHATEVER THE INPUT: true; the input reads as it did. -/
def capTellsSpec : ChangeSpec := { name := "capTells", fn := fun _ => fun
  | [d1, d2, d3, d4] => { results := [.lit (.bool true)], args := [d1, d2, d3, d4] }
  | _ => none }
def capTellsRow : OpenClaim := { program := "ytgilagbfgbgplaa", sum := "c6ddf342ed7eb98d83afd5c5dfdd77b64cb85c07501f8f9d91fd9d8120bcf35c", func := "seizin/seizinlaw02.CapTells", spec := "capTells", apart := false }
def CapTellsSaid : Prop := capTellsRow.holds Try.pinned (OpenSpec.ofChange capTellsSpec)

/-- ITS FALSE NEIGHBOUR: 'it returns false'. Refute it at one input. -/
def capTellsWrong : ChangeSpec := { name := "capTells", fn := fun _ => fun
  | [d1, d2, d3, d4] => { results := [.lit (.bool false)], args := [d1, d2, d3, d4] }
  | _ => none }
def CapTellsWrongFalsely : Prop := capTellsRow.holds Try.pinned (OpenSpec.ofChange capTellsWrong)

/-- 'seizinlaw02.CapOrder': WHATEVER THE INPUT: true; the input reads as it did. -/
def capOrderSpec : ChangeSpec := { name := "capOrder", fn := fun _ => fun
  | [d1, d2, d3] => { results := [.lit (.bool true)], args := [d1, d2, d3] }
  | _ => none }
def capOrderRow : OpenClaim := { program := "ytgilagbfgbgplaa", sum := "c6ddf342ed7eb98d83afd5c5dfdd77b64cb85c07501f8f9d91fd9d8120bcf35c", func := "seizin/seizinlaw02.CapOrder", spec := "capOrder", apart := false }
def CapOrderSaid : Prop := capOrderRow.holds Try.pinned (OpenSpec.ofChange capOrderSpec)

/-- ITS FALSE NEIGHBOUR: 'it returns false'. Refute it at one input. -/
def capOrderWrong : ChangeSpec := { name := "capOrder", fn := fun _ => fun
  | [d1, d2, d3] => { results := [.lit (.bool false)], args := [d1, d2, d3] }
  | _ => none }
def CapOrderWrongFalsely : Prop := capOrderRow.holds Try.pinned (OpenSpec.ofChange capOrderWrong)

/-- 'seizinlaw02.CapSpans': WHATEVER THE INPUT: true; the input reads as it did. -/
def capSpansSpec : ChangeSpec := { name := "capSpans", fn := fun _ => fun
  | [d1, d2, d3, d4] => { results := [.lit (.bool true)], args := [d1, d2, d3, d4] }
  | _ => none }
def capSpansRow : OpenClaim := { program := "ytgilagbfgbgplaa", sum := "c6ddf342ed7eb98d83afd5c5dfdd77b64cb85c07501f8f9d91fd9d8120bcf35c", func := "seizin/seizinlaw02.CapSpans", spec := "capSpans", apart := false }
def CapSpansSaid : Prop := capSpansRow.holds Try.pinned (OpenSpec.ofChange capSpansSpec)

/-- ITS FALSE NEIGHBOUR: 'it returns false'. Refute it at one input. -/
def capSpansWrong : ChangeSpec := { name := "capSpans", fn := fun _ => fun
  | [d1, d2, d3, d4] => { results := [.lit (.bool false)], args := [d1, d2, d3, d4] }
  | _ => none }
def CapSpansWrongFalsely : Prop := capSpansRow.holds Try.pinned (OpenSpec.ofChange capSpansWrong)

/-- 'seizinlaw02.CapNumbers': WHATEVER THE INPUT: true; the input reads as it did. -/
def capNumbersSpec : ChangeSpec := { name := "capNumbers", fn := fun _ => fun
  | [d1, d2] => { results := [.lit (.bool true)], args := [d1, d2] }
  | _ => none }
def capNumbersRow : OpenClaim := { program := "ytgilagbfgbgplaa", sum := "c6ddf342ed7eb98d83afd5c5dfdd77b64cb85c07501f8f9d91fd9d8120bcf35c", func := "seizin/seizinlaw02.CapNumbers", spec := "capNumbers", apart := false }
def CapNumbersSaid : Prop := capNumbersRow.holds Try.pinned (OpenSpec.ofChange capNumbersSpec)

/-- ITS FALSE NEIGHBOUR: 'it returns false'. Refute it at one input. -/
def capNumbersWrong : ChangeSpec := { name := "capNumbers", fn := fun _ => fun
  | [d1, d2] => { results := [.lit (.bool false)], args := [d1, d2] }
  | _ => none }
def CapNumbersWrongFalsely : Prop := capNumbersRow.holds Try.pinned (OpenSpec.ofChange capNumbersWrong)

/-- 'seizinlaw02.CapIn': WHATEVER THE INPUT: true; the input reads as it did. -/
def capInSpec : ChangeSpec := { name := "capIn", fn := fun _ => fun
  | [d1, d2, d3] => { results := [.lit (.bool true)], args := [d1, d2, d3] }
  | _ => none }
def capInRow : OpenClaim := { program := "ytgilagbfgbgplaa", sum := "c6ddf342ed7eb98d83afd5c5dfdd77b64cb85c07501f8f9d91fd9d8120bcf35c", func := "seizin/seizinlaw02.CapIn", spec := "capIn", apart := false }
def CapInSaid : Prop := capInRow.holds Try.pinned (OpenSpec.ofChange capInSpec)

/-- ITS FALSE NEIGHBOUR: 'it returns false'. Refute it at one input. -/
def capInWrong : ChangeSpec := { name := "capIn", fn := fun _ => fun
  | [d1, d2, d3] => { results := [.lit (.bool false)], args := [d1, d2, d3] }
  | _ => none }
def CapInWrongFalsely : Prop := capInRow.holds Try.pinned (OpenSpec.ofChange capInWrong)

/-- 'seizinlaw02.CapRoot': WHATEVER THE INPUT: true; the input reads as it did. -/
def capRootSpec : ChangeSpec := { name := "capRoot", fn := fun _ => fun
  | [d1, d2] => { results := [.lit (.bool true)], args := [d1, d2] }
  | _ => none }
def capRootRow : OpenClaim := { program := "ytgilagbfgbgplaa", sum := "c6ddf342ed7eb98d83afd5c5dfdd77b64cb85c07501f8f9d91fd9d8120bcf35c", func := "seizin/seizinlaw02.CapRoot", spec := "capRoot", apart := false }
def CapRootSaid : Prop := capRootRow.holds Try.pinned (OpenSpec.ofChange capRootSpec)

/-- ITS FALSE NEIGHBOUR: 'it returns false'. Refute it at one input. -/
def capRootWrong : ChangeSpec := { name := "capRoot", fn := fun _ => fun
  | [d1, d2] => { results := [.lit (.bool false)], args := [d1, d2] }
  | _ => none }
def CapRootWrongFalsely : Prop := capRootRow.holds Try.pinned (OpenSpec.ofChange capRootWrong)

/-- 'seizinlaw02.CapOff': WHATEVER THE INPUT: true; the input reads as it did. -/
def capOffSpec : ChangeSpec := { name := "capOff", fn := fun _ => fun
  | [d1, d2] => { results := [.lit (.bool true)], args := [d1, d2] }
  | _ => none }
def capOffRow : OpenClaim := { program := "ytgilagbfgbgplaa", sum := "c6ddf342ed7eb98d83afd5c5dfdd77b64cb85c07501f8f9d91fd9d8120bcf35c", func := "seizin/seizinlaw02.CapOff", spec := "capOff", apart := false }
def CapOffSaid : Prop := capOffRow.holds Try.pinned (OpenSpec.ofChange capOffSpec)

/-- ITS FALSE NEIGHBOUR: 'it returns false'. Refute it at one input. -/
def capOffWrong : ChangeSpec := { name := "capOff", fn := fun _ => fun
  | [d1, d2] => { results := [.lit (.bool false)], args := [d1, d2] }
  | _ => none }
def CapOffWrongFalsely : Prop := capOffRow.holds Try.pinned (OpenSpec.ofChange capOffWrong)

/- THE SECOND FORM. 'bulk': how many values and letters a reading holds, each counted each time it is reached (what is shared counts as often as it is met; a slice's spare places count too). A statement '..UptoSaid' is the law's where the arguments, and the package variables that the reading takes, are together of bulk at most 1048576: NARROWER than '..Said'. Prove '..Said' where nothing that the law and all that it calls make is longer than what came in: it says more and counts as full. Else prove '..UptoSaid'. A law counts once. -/
mutual
def uptoBulk {H : Type} : DataW H → Nat
  | .lit (.string bytes) => bytes.length + 1
  | .lit _ => 1
  | .nil => 1
  | .ptr d => uptoBulk d + 1
  | .slice elems spare => uptoBulkAll elems + uptoBulkAll spare + 1
  | .agg parts => uptoBulkAll parts + 1
  | .iface _ d => uptoBulk d + 1
  | .map entries => uptoBulkEntries entries + 1
  | .held _ => 1
def uptoBulkAll {H : Type} : List (DataW H) → Nat
  | [] => 0
  | d :: r => uptoBulk d + uptoBulkAll r
def uptoBulkEntries {H : Type} : List (Lit × DataW H) → Nat
  | [] => 0
  | x :: r => uptoBulkEntry x + uptoBulkEntries r
def uptoBulkEntry {H : Type} : Lit × DataW H → Nat
  | (.string bytes, d) => bytes.length + uptoBulk d + 1
  | (_, d) => uptoBulk d + 1
 end
def uptoSmall : (H : Type) → List (DataW H) → Bool := fun _ ds => decide (uptoBulkAll ds ≤ 1048576)
def OpenSpec.upto (s : _root_.Go.ChangeSpec) : _root_.Go.OpenSpec := { _root_.Go.OpenSpec.ofChange s with cond := some uptoSmall }

/-- 'seizinlaw09.EpochPlays', WHERE WHAT IT READS IS OF BULK AT MOST 1048576: true; the input reads as it did. -/
def epochPlaysUptoRow : OpenClaim := { program := "ytgilagbfgbgplaa", sum := "c6ddf342ed7eb98d83afd5c5dfdd77b64cb85c07501f8f9d91fd9d8120bcf35c", func := "seizin/seizinlaw09.EpochPlays", spec := "epochPlays", unfollowed := true, recurses := true, apart := false, narrowed := true }
def EpochPlaysUptoSaid : Prop := epochPlaysUptoRow.holds Try.pinned (OpenSpec.upto epochPlaysSpec)

/-- 'seizinlaw09.EpochWhole', WHERE WHAT IT READS IS OF BULK AT MOST 1048576: true; the input reads as it did. -/
def epochWholeUptoRow : OpenClaim := { program := "ytgilagbfgbgplaa", sum := "c6ddf342ed7eb98d83afd5c5dfdd77b64cb85c07501f8f9d91fd9d8120bcf35c", func := "seizin/seizinlaw09.EpochWhole", spec := "epochWhole", unfollowed := true, recurses := true, apart := false, narrowed := true }
def EpochWholeUptoSaid : Prop := epochWholeUptoRow.holds Try.pinned (OpenSpec.upto epochWholeSpec)

/-- 'seizinlaw09.EpochTurns', WHERE WHAT IT READS IS OF BULK AT MOST 1048576: true; the input reads as it did. -/
def epochTurnsUptoRow : OpenClaim := { program := "ytgilagbfgbgplaa", sum := "c6ddf342ed7eb98d83afd5c5dfdd77b64cb85c07501f8f9d91fd9d8120bcf35c", func := "seizin/seizinlaw09.EpochTurns", spec := "epochTurns", unfollowed := true, recurses := true, apart := false, narrowed := true }
def EpochTurnsUptoSaid : Prop := epochTurnsUptoRow.holds Try.pinned (OpenSpec.upto epochTurnsSpec)

/-- 'seizinlaw09.EpochWhen', WHERE WHAT IT READS IS OF BULK AT MOST 1048576: true; the input reads as it did. -/
def epochWhenUptoRow : OpenClaim := { program := "ytgilagbfgbgplaa", sum := "c6ddf342ed7eb98d83afd5c5dfdd77b64cb85c07501f8f9d91fd9d8120bcf35c", func := "seizin/seizinlaw09.EpochWhen", spec := "epochWhen", unfollowed := true, recurses := true, apart := false, narrowed := true }
def EpochWhenUptoSaid : Prop := epochWhenUptoRow.holds Try.pinned (OpenSpec.upto epochWhenSpec)

/-- 'seizinlaw09.EpochOnce', WHERE WHAT IT READS IS OF BULK AT MOST 1048576: true; the input reads as it did. -/
def epochOnceUptoRow : OpenClaim := { program := "ytgilagbfgbgplaa", sum := "c6ddf342ed7eb98d83afd5c5dfdd77b64cb85c07501f8f9d91fd9d8120bcf35c", func := "seizin/seizinlaw09.EpochOnce", spec := "epochOnce", unfollowed := true, recurses := true, apart := false, narrowed := true }
def EpochOnceUptoSaid : Prop := epochOnceUptoRow.holds Try.pinned (OpenSpec.upto epochOnceSpec)

/-- 'seizinlaw02.CapTells', WHERE WHAT IT READS IS OF BULK AT MOST 1048576: true; the input reads as it did. -/
def capTellsUptoRow : OpenClaim := { program := "ytgilagbfgbgplaa", sum := "c6ddf342ed7eb98d83afd5c5dfdd77b64cb85c07501f8f9d91fd9d8120bcf35c", func := "seizin/seizinlaw02.CapTells", spec := "capTells", apart := false, narrowed := true }
def CapTellsUptoSaid : Prop := capTellsUptoRow.holds Try.pinned (OpenSpec.upto capTellsSpec)

/-- 'seizinlaw02.CapOrder', WHERE WHAT IT READS IS OF BULK AT MOST 1048576: true; the input reads as it did. -/
def capOrderUptoRow : OpenClaim := { program := "ytgilagbfgbgplaa", sum := "c6ddf342ed7eb98d83afd5c5dfdd77b64cb85c07501f8f9d91fd9d8120bcf35c", func := "seizin/seizinlaw02.CapOrder", spec := "capOrder", apart := false, narrowed := true }
def CapOrderUptoSaid : Prop := capOrderUptoRow.holds Try.pinned (OpenSpec.upto capOrderSpec)

/-- 'seizinlaw02.CapSpans', WHERE WHAT IT READS IS OF BULK AT MOST 1048576: true; the input reads as it did. -/
def capSpansUptoRow : OpenClaim := { program := "ytgilagbfgbgplaa", sum := "c6ddf342ed7eb98d83afd5c5dfdd77b64cb85c07501f8f9d91fd9d8120bcf35c", func := "seizin/seizinlaw02.CapSpans", spec := "capSpans", apart := false, narrowed := true }
def CapSpansUptoSaid : Prop := capSpansUptoRow.holds Try.pinned (OpenSpec.upto capSpansSpec)

/-- 'seizinlaw02.CapNumbers', WHERE WHAT IT READS IS OF BULK AT MOST 1048576: true; the input reads as it did. -/
def capNumbersUptoRow : OpenClaim := { program := "ytgilagbfgbgplaa", sum := "c6ddf342ed7eb98d83afd5c5dfdd77b64cb85c07501f8f9d91fd9d8120bcf35c", func := "seizin/seizinlaw02.CapNumbers", spec := "capNumbers", apart := false, narrowed := true }
def CapNumbersUptoSaid : Prop := capNumbersUptoRow.holds Try.pinned (OpenSpec.upto capNumbersSpec)

/-- 'seizinlaw02.CapIn', WHERE WHAT IT READS IS OF BULK AT MOST 1048576: true; the input reads as it did. -/
def capInUptoRow : OpenClaim := { program := "ytgilagbfgbgplaa", sum := "c6ddf342ed7eb98d83afd5c5dfdd77b64cb85c07501f8f9d91fd9d8120bcf35c", func := "seizin/seizinlaw02.CapIn", spec := "capIn", apart := false, narrowed := true }
def CapInUptoSaid : Prop := capInUptoRow.holds Try.pinned (OpenSpec.upto capInSpec)

/-- 'seizinlaw02.CapRoot', WHERE WHAT IT READS IS OF BULK AT MOST 1048576: true; the input reads as it did. -/
def capRootUptoRow : OpenClaim := { program := "ytgilagbfgbgplaa", sum := "c6ddf342ed7eb98d83afd5c5dfdd77b64cb85c07501f8f9d91fd9d8120bcf35c", func := "seizin/seizinlaw02.CapRoot", spec := "capRoot", apart := false, narrowed := true }
def CapRootUptoSaid : Prop := capRootUptoRow.holds Try.pinned (OpenSpec.upto capRootSpec)

/-- 'seizinlaw02.CapOff', WHERE WHAT IT READS IS OF BULK AT MOST 1048576: true; the input reads as it did. -/
def capOffUptoRow : OpenClaim := { program := "ytgilagbfgbgplaa", sum := "c6ddf342ed7eb98d83afd5c5dfdd77b64cb85c07501f8f9d91fd9d8120bcf35c", func := "seizin/seizinlaw02.CapOff", spec := "capOff", apart := false, narrowed := true }
def CapOffUptoSaid : Prop := capOffUptoRow.holds Try.pinned (OpenSpec.upto capOffSpec)

end Rows
end Go.Proofs.Ytgilagbfgbgplaa
