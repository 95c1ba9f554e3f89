/-
  No cell of these rows narrows 'for every input' (looked for: loops, veiled, ifaces, maps, wideKeys, modest, calm, conditions, laid).
  DERIVED. THE GIVEN ROWS OF THIS SEAT. 7 by the template 'for every input the law returns true; each argument reads behind the call as it read before'; 0 by the template 'total and deterministic' (their statements: YthhiljgngedaaaaTotals.lean).
  GIVEN WITH THE SEED: the statements are not yours to turn. If you find one false, say at which input.
  Laid BY PROGRAM, IN A SANDBOX (cutbox-rows.mjs): the forced cells as the released guide's own fill.sh prints them over the translation 93c40ba4fd724f5f… (all of the seat's roots in one cut). By AI agents, Wed Nov 11 2026. No macro, syntax, notation, axiom, sorry.
-/
import Derived.Test.YthhiljgngedaaaaChecked
import GoSem.Claim
import GoSem.ClaimJoined
import GoSem.ClaimMapViews
import Derived.JoinedTies
import Derived.KernelRfl
namespace Go.Proofs.Ythhiljgngedaaaa
/- THE CELL 'sum', in the pinned program and in every row, IS THE sha256 OF THE DUMP (.gsa) THAT YthhiljgngedaaaaProg.lean LOADS. Nothing in Lean hashes anything: it is a label: what it is worth is what the hold of that sum in a sandbox is worth. -/
noncomputable def Try.pinned : Pinned := { name := "ythhiljgngedaaaa", sum := "93c40ba4fd724f5f807cf07a67ad039d504ac1665b4652e1e5f3c104282f5628", checked := Try.checked }
namespace Rows
def none {H : Type} : Left H := { results := [], args := [] }

/-- 'seizinlaw05.AccessTells': WHATEVER THE INPUT: true; the input reads as it did. -/
def accessTellsSpec : ChangeSpec := { name := "accessTells", fn := fun _ => fun
  | [d1, d2, d3, d4] => { results := [.lit (.bool true)], args := [d1, d2, d3, d4] }
  | _ => none }
def accessTellsRow : OpenClaim := { program := "ythhiljgngedaaaa", sum := "93c40ba4fd724f5f807cf07a67ad039d504ac1665b4652e1e5f3c104282f5628", func := "seizin/seizinlaw05.AccessTells", spec := "accessTells", apart := false }
def AccessTellsSaid : Prop := accessTellsRow.holds Try.pinned (OpenSpec.ofChange accessTellsSpec)

/-- ITS FALSE NEIGHBOUR: 'it returns false'. Refute it at one input. -/
def accessTellsWrong : ChangeSpec := { name := "accessTells", fn := fun _ => fun
  | [d1, d2, d3, d4] => { results := [.lit (.bool false)], args := [d1, d2, d3, d4] }
  | _ => none }
def AccessTellsWrongFalsely : Prop := accessTellsRow.holds Try.pinned (OpenSpec.ofChange accessTellsWrong)

/-- 'seizinlaw05.AccessWithin': WHATEVER THE INPUT: true; the input reads as it did. -/
def accessWithinSpec : ChangeSpec := { name := "accessWithin", fn := fun _ => fun
  | [d1, d2, d3, d4] => { results := [.lit (.bool true)], args := [d1, d2, d3, d4] }
  | _ => none }
def accessWithinRow : OpenClaim := { program := "ythhiljgngedaaaa", sum := "93c40ba4fd724f5f807cf07a67ad039d504ac1665b4652e1e5f3c104282f5628", func := "seizin/seizinlaw05.AccessWithin", spec := "accessWithin", apart := false }
def AccessWithinSaid : Prop := accessWithinRow.holds Try.pinned (OpenSpec.ofChange accessWithinSpec)

/-- ITS FALSE NEIGHBOUR: 'it returns false'. Refute it at one input. -/
def accessWithinWrong : ChangeSpec := { name := "accessWithin", fn := fun _ => fun
  | [d1, d2, d3, d4] => { results := [.lit (.bool false)], args := [d1, d2, d3, d4] }
  | _ => none }
def AccessWithinWrongFalsely : Prop := accessWithinRow.holds Try.pinned (OpenSpec.ofChange accessWithinWrong)

/-- 'seizinlaw05.AccessLess': WHATEVER THE INPUT: true; the input reads as it did. -/
def accessLessSpec : ChangeSpec := { name := "accessLess", fn := fun _ => fun
  | [d1, d2, d3, d4, d5] => { results := [.lit (.bool true)], args := [d1, d2, d3, d4, d5] }
  | _ => none }
def accessLessRow : OpenClaim := { program := "ythhiljgngedaaaa", sum := "93c40ba4fd724f5f807cf07a67ad039d504ac1665b4652e1e5f3c104282f5628", func := "seizin/seizinlaw05.AccessLess", spec := "accessLess", apart := false }
def AccessLessSaid : Prop := accessLessRow.holds Try.pinned (OpenSpec.ofChange accessLessSpec)

/-- ITS FALSE NEIGHBOUR: 'it returns false'. Refute it at one input. -/
def accessLessWrong : ChangeSpec := { name := "accessLess", fn := fun _ => fun
  | [d1, d2, d3, d4, d5] => { results := [.lit (.bool false)], args := [d1, d2, d3, d4, d5] }
  | _ => none }
def AccessLessWrongFalsely : Prop := accessLessRow.holds Try.pinned (OpenSpec.ofChange accessLessWrong)

/-- 'seizinlaw05.AccessSteps': WHATEVER THE INPUT: true; the input reads as it did. -/
def accessStepsSpec : ChangeSpec := { name := "accessSteps", fn := fun _ => fun
  | [d1, d2] => { results := [.lit (.bool true)], args := [d1, d2] }
  | _ => none }
def accessStepsRow : OpenClaim := { program := "ythhiljgngedaaaa", sum := "93c40ba4fd724f5f807cf07a67ad039d504ac1665b4652e1e5f3c104282f5628", func := "seizin/seizinlaw05.AccessSteps", spec := "accessSteps", apart := false }
def AccessStepsSaid : Prop := accessStepsRow.holds Try.pinned (OpenSpec.ofChange accessStepsSpec)

/-- ITS FALSE NEIGHBOUR: 'it returns false'. Refute it at one input. -/
def accessStepsWrong : ChangeSpec := { name := "accessSteps", fn := fun _ => fun
  | [d1, d2] => { results := [.lit (.bool false)], args := [d1, d2] }
  | _ => none }
def AccessStepsWrongFalsely : Prop := accessStepsRow.holds Try.pinned (OpenSpec.ofChange accessStepsWrong)

/-- 'seizinlaw05.AccessBytes': WHATEVER THE INPUT: true; the input reads as it did. -/
def accessBytesSpec : ChangeSpec := { name := "accessBytes", fn := fun _ => fun
  | [d1, d2, d3, d4] => { results := [.lit (.bool true)], args := [d1, d2, d3, d4] }
  | _ => none }
def accessBytesRow : OpenClaim := { program := "ythhiljgngedaaaa", sum := "93c40ba4fd724f5f807cf07a67ad039d504ac1665b4652e1e5f3c104282f5628", func := "seizin/seizinlaw05.AccessBytes", spec := "accessBytes", apart := false }
def AccessBytesSaid : Prop := accessBytesRow.holds Try.pinned (OpenSpec.ofChange accessBytesSpec)

/-- ITS FALSE NEIGHBOUR: 'it returns false'. Refute it at one input. -/
def accessBytesWrong : ChangeSpec := { name := "accessBytes", fn := fun _ => fun
  | [d1, d2, d3, d4] => { results := [.lit (.bool false)], args := [d1, d2, d3, d4] }
  | _ => none }
def AccessBytesWrongFalsely : Prop := accessBytesRow.holds Try.pinned (OpenSpec.ofChange accessBytesWrong)

/-- 'seizinlaw05.AccessPerms': WHATEVER THE INPUT: true; the input reads as it did. -/
def accessPermsSpec : ChangeSpec := { name := "accessPerms", fn := fun _ => fun
  | [d1, d2, d3, d4] => { results := [.lit (.bool true)], args := [d1, d2, d3, d4] }
  | _ => none }
def accessPermsRow : OpenClaim := { program := "ythhiljgngedaaaa", sum := "93c40ba4fd724f5f807cf07a67ad039d504ac1665b4652e1e5f3c104282f5628", func := "seizin/seizinlaw05.AccessPerms", spec := "accessPerms", apart := false }
def AccessPermsSaid : Prop := accessPermsRow.holds Try.pinned (OpenSpec.ofChange accessPermsSpec)

/-- ITS FALSE NEIGHBOUR: 'it returns false'. Refute it at one input. -/
def accessPermsWrong : ChangeSpec := { name := "accessPerms", fn := fun _ => fun
  | [d1, d2, d3, d4] => { results := [.lit (.bool false)], args := [d1, d2, d3, d4] }
  | _ => none }
def AccessPermsWrongFalsely : Prop := accessPermsRow.holds Try.pinned (OpenSpec.ofChange accessPermsWrong)

/-- 'seizinlaw05.AccessKinds': WHATEVER THE INPUT: true; the input reads as it did. -/
def accessKindsSpec : ChangeSpec := { name := "accessKinds", fn := fun _ => fun
  | [d1, d2, d3] => { results := [.lit (.bool true)], args := [d1, d2, d3] }
  | _ => none }
def accessKindsRow : OpenClaim := { program := "ythhiljgngedaaaa", sum := "93c40ba4fd724f5f807cf07a67ad039d504ac1665b4652e1e5f3c104282f5628", func := "seizin/seizinlaw05.AccessKinds", spec := "accessKinds", apart := false }
def AccessKindsSaid : Prop := accessKindsRow.holds Try.pinned (OpenSpec.ofChange accessKindsSpec)

/-- ITS FALSE NEIGHBOUR: 'it returns false'. Refute it at one input. -/
def accessKindsWrong : ChangeSpec := { name := "accessKinds", fn := fun _ => fun
  | [d1, d2, d3] => { results := [.lit (.bool false)], args := [d1, d2, d3] }
  | _ => none }
def AccessKindsWrongFalsely : Prop := accessKindsRow.holds Try.pinned (OpenSpec.ofChange accessKindsWrong)

/- THE SECOND FORM. 'bulk': how many values and letters a reading holds, each counted each time it is reached (what is shared counts as often as it is met; a slice's spare places count too). A statement '..UptoSaid' is the law's where the arguments, and the package variables that the reading takes, are together of bulk at most 1048576: NARROWER than '..Said'. Prove '..Said' where nothing that the law and all that it calls make is longer than what came in: it says more and counts as full. Else prove '..UptoSaid'. A law counts once. -/
mutual
def uptoBulk {H : Type} : DataW H → Nat
  | .lit (.string bytes) => bytes.length + 1
  | .lit _ => 1
  | .nil => 1
  | .ptr d => uptoBulk d + 1
  | .slice elems spare => uptoBulkAll elems + uptoBulkAll spare + 1
  | .agg parts => uptoBulkAll parts + 1
  | .iface _ d => uptoBulk d + 1
  | .map entries => uptoBulkEntries entries + 1
  | .held _ => 1
def uptoBulkAll {H : Type} : List (DataW H) → Nat
  | [] => 0
  | d :: r => uptoBulk d + uptoBulkAll r
def uptoBulkEntries {H : Type} : List (Lit × DataW H) → Nat
  | [] => 0
  | x :: r => uptoBulkEntry x + uptoBulkEntries r
def uptoBulkEntry {H : Type} : Lit × DataW H → Nat
  | (.string bytes, d) => bytes.length + uptoBulk d + 1
  | (_, d) => uptoBulk d + 1
 end
def uptoSmall : (H : Type) → List (DataW H) → Bool := fun _ ds => decide (uptoBulkAll ds ≤ 1048576)
def OpenSpec.upto (s : _root_.Go.ChangeSpec) : _root_.Go.OpenSpec := { _root_.Go.OpenSpec.ofChange s with cond := some uptoSmall }

/-- 'seizinlaw05.AccessTells', WHERE WHAT IT READS IS OF BULK AT MOST 1048576: true; the input reads as it did. -/
def accessTellsUptoRow : OpenClaim := { program := "ythhiljgngedaaaa", sum := "93c40ba4fd724f5f807cf07a67ad039d504ac1665b4652e1e5f3c104282f5628", func := "seizin/seizinlaw05.AccessTells", spec := "accessTells", apart := false, narrowed := true }
def AccessTellsUptoSaid : Prop := accessTellsUptoRow.holds Try.pinned (OpenSpec.upto accessTellsSpec)

/-- 'seizinlaw05.AccessWithin', WHERE WHAT IT READS IS OF BULK AT MOST 1048576: true; the input reads as it did. -/
def accessWithinUptoRow : OpenClaim := { program := "ythhiljgngedaaaa", sum := "93c40ba4fd724f5f807cf07a67ad039d504ac1665b4652e1e5f3c104282f5628", func := "seizin/seizinlaw05.AccessWithin", spec := "accessWithin", apart := false, narrowed := true }
def AccessWithinUptoSaid : Prop := accessWithinUptoRow.holds Try.pinned (OpenSpec.upto accessWithinSpec)

/-- 'seizinlaw05.AccessLess', WHERE WHAT IT READS IS OF BULK AT MOST 1048576: true; the input reads as it did. -/
def accessLessUptoRow : OpenClaim := { program := "ythhiljgngedaaaa", sum := "93c40ba4fd724f5f807cf07a67ad039d504ac1665b4652e1e5f3c104282f5628", func := "seizin/seizinlaw05.AccessLess", spec := "accessLess", apart := false, narrowed := true }
def AccessLessUptoSaid : Prop := accessLessUptoRow.holds Try.pinned (OpenSpec.upto accessLessSpec)

/-- 'seizinlaw05.AccessSteps', WHERE WHAT IT READS IS OF BULK AT MOST 1048576: true; the input reads as it did. -/
def accessStepsUptoRow : OpenClaim := { program := "ythhiljgngedaaaa", sum := "93c40ba4fd724f5f807cf07a67ad039d504ac1665b4652e1e5f3c104282f5628", func := "seizin/seizinlaw05.AccessSteps", spec := "accessSteps", apart := false, narrowed := true }
def AccessStepsUptoSaid : Prop := accessStepsUptoRow.holds Try.pinned (OpenSpec.upto accessStepsSpec)

/-- 'seizinlaw05.AccessBytes', WHERE WHAT IT READS IS OF BULK AT MOST 1048576: true; the input reads as it did. -/
def accessBytesUptoRow : OpenClaim := { program := "ythhiljgngedaaaa", sum := "93c40ba4fd724f5f807cf07a67ad039d504ac1665b4652e1e5f3c104282f5628", func := "seizin/seizinlaw05.AccessBytes", spec := "accessBytes", apart := false, narrowed := true }
def AccessBytesUptoSaid : Prop := accessBytesUptoRow.holds Try.pinned (OpenSpec.upto accessBytesSpec)

/-- 'seizinlaw05.AccessPerms', WHERE WHAT IT READS IS OF BULK AT MOST 1048576: true; the input reads as it did. -/
def accessPermsUptoRow : OpenClaim := { program := "ythhiljgngedaaaa", sum := "93c40ba4fd724f5f807cf07a67ad039d504ac1665b4652e1e5f3c104282f5628", func := "seizin/seizinlaw05.AccessPerms", spec := "accessPerms", apart := false, narrowed := true }
def AccessPermsUptoSaid : Prop := accessPermsUptoRow.holds Try.pinned (OpenSpec.upto accessPermsSpec)

/-- 'seizinlaw05.AccessKinds', WHERE WHAT IT READS IS OF BULK AT MOST 1048576: true; the input reads as it did. -/
def accessKindsUptoRow : OpenClaim := { program := "ythhiljgngedaaaa", sum := "93c40ba4fd724f5f807cf07a67ad039d504ac1665b4652e1e5f3c104282f5628", func := "seizin/seizinlaw05.AccessKinds", spec := "accessKinds", apart := false, narrowed := true }
def AccessKindsUptoSaid : Prop := accessKindsUptoRow.holds Try.pinned (OpenSpec.upto accessKindsSpec)

end Rows
end Go.Proofs.Ythhiljgngedaaaa
