/-
  No cell of these rows narrows 'for every input' (looked for: loops, veiled, ifaces, maps, wideKeys, modest, calm, conditions, laid).
  DERIVED. THE GIVEN ROWS OF THIS SEAT. 10 by the template 'for every input the law returns true; each argument reads behind the call as it read before'; 0 by the template 'total and deterministic' (their statements: YtldgecnmmklldaaTotals.lean).
  GIVEN WITH THE SEED: the statements are not yours to turn. If you find one false, say at which input.
  Laid BY PROGRAM, IN A SANDBOX (cutbox-rows.mjs): the forced cells as the released guide's own fill.sh prints them over the translation bb55cfeda4dcc1c8… (all of the seat's roots in one cut). By AI agents, Wed Nov 11 2026. No macro, syntax, notation, axiom, sorry.
-/
import Derived.Test.YtldgecnmmklldaaChecked
import GoSem.Claim
import GoSem.ClaimJoined
import GoSem.ClaimMapViews
import Derived.JoinedTies
import Derived.KernelRfl
namespace Go.Proofs.Ytldgecnmmklldaa
/- THE CELL 'sum', in the pinned program and in every row, IS THE sha256 OF THE DUMP (.gsa) THAT YtldgecnmmklldaaProg.lean LOADS. Nothing in Lean hashes anything: it is a label: what it is worth is what the hold of that sum in a sandbox is worth. -/
noncomputable def Try.pinned : Pinned := { name := "ytldgecnmmklldaa", sum := "bb55cfeda4dcc1c88826e0b1eb52403346207083bc258bcbee849b8cae05bc87", checked := Try.checked }
namespace Rows
def none {H : Type} : Left H := { results := [], args := [] }

/-- 'seizinlaw13.QuarBounds': WHATEVER THE INPUT: true; the input reads as it did. -/
def quarBoundsSpec : ChangeSpec := { name := "quarBounds", fn := fun _ => fun
  | [d1, d2] => { results := [.lit (.bool true)], args := [d1, d2] }
  | _ => none }
def quarBoundsRow : OpenClaim := { program := "ytldgecnmmklldaa", sum := "bb55cfeda4dcc1c88826e0b1eb52403346207083bc258bcbee849b8cae05bc87", func := "seizin/seizinlaw13.QuarBounds", spec := "quarBounds", unfollowed := true, recurses := true, apart := false }
def QuarBoundsSaid : Prop := quarBoundsRow.holds Try.pinned (OpenSpec.ofChange quarBoundsSpec)

/-- ITS FALSE NEIGHBOUR: 'it returns false'. Refute it at one input. -/
def quarBoundsWrong : ChangeSpec := { name := "quarBounds", fn := fun _ => fun
  | [d1, d2] => { results := [.lit (.bool false)], args := [d1, d2] }
  | _ => none }
def QuarBoundsWrongFalsely : Prop := quarBoundsRow.holds Try.pinned (OpenSpec.ofChange quarBoundsWrong)

/-- 'seizinlaw13.QuarPlays': WHATEVER THE INPUT: true; the input reads as it did. -/
def quarPlaysSpec : ChangeSpec := { name := "quarPlays", fn := fun _ => fun
  | [d1, d2] => { results := [.lit (.bool true)], args := [d1, d2] }
  | _ => none }
def quarPlaysRow : OpenClaim := { program := "ytldgecnmmklldaa", sum := "bb55cfeda4dcc1c88826e0b1eb52403346207083bc258bcbee849b8cae05bc87", func := "seizin/seizinlaw13.QuarPlays", spec := "quarPlays", unfollowed := true, recurses := true, apart := false }
def QuarPlaysSaid : Prop := quarPlaysRow.holds Try.pinned (OpenSpec.ofChange quarPlaysSpec)

/-- ITS FALSE NEIGHBOUR: 'it returns false'. Refute it at one input. -/
def quarPlaysWrong : ChangeSpec := { name := "quarPlays", fn := fun _ => fun
  | [d1, d2] => { results := [.lit (.bool false)], args := [d1, d2] }
  | _ => none }
def QuarPlaysWrongFalsely : Prop := quarPlaysRow.holds Try.pinned (OpenSpec.ofChange quarPlaysWrong)

/-- 'seizinlaw13.QuarOrder': WHATEVER THE INPUT: true; the input reads as it did. -/
def quarOrderSpec : ChangeSpec := { name := "quarOrder", fn := fun _ => fun
  | [d] => { results := [.lit (.bool true)], args := [d] }
  | _ => none }
def quarOrderRow : OpenClaim := { program := "ytldgecnmmklldaa", sum := "bb55cfeda4dcc1c88826e0b1eb52403346207083bc258bcbee849b8cae05bc87", func := "seizin/seizinlaw13.QuarOrder", spec := "quarOrder", unfollowed := true, recurses := true, apart := false }
def QuarOrderSaid : Prop := quarOrderRow.holds Try.pinned (OpenSpec.ofChange quarOrderSpec)

/-- ITS FALSE NEIGHBOUR: 'it returns false'. Refute it at one input. -/
def quarOrderWrong : ChangeSpec := { name := "quarOrder", fn := fun _ => fun
  | [d] => { results := [.lit (.bool false)], args := [d] }
  | _ => none }
def QuarOrderWrongFalsely : Prop := quarOrderRow.holds Try.pinned (OpenSpec.ofChange quarOrderWrong)

/-- 'seizinlaw13.QuarAll': WHATEVER THE INPUT: true; the input reads as it did. -/
def quarAllSpec : ChangeSpec := { name := "quarAll", fn := fun _ => fun
  | [d] => { results := [.lit (.bool true)], args := [d] }
  | _ => none }
def quarAllRow : OpenClaim := { program := "ytldgecnmmklldaa", sum := "bb55cfeda4dcc1c88826e0b1eb52403346207083bc258bcbee849b8cae05bc87", func := "seizin/seizinlaw13.QuarAll", spec := "quarAll", unfollowed := true, recurses := true, apart := false }
def QuarAllSaid : Prop := quarAllRow.holds Try.pinned (OpenSpec.ofChange quarAllSpec)

/-- ITS FALSE NEIGHBOUR: 'it returns false'. Refute it at one input. -/
def quarAllWrong : ChangeSpec := { name := "quarAll", fn := fun _ => fun
  | [d] => { results := [.lit (.bool false)], args := [d] }
  | _ => none }
def QuarAllWrongFalsely : Prop := quarAllRow.holds Try.pinned (OpenSpec.ofChange quarAllWrong)

/-- 'seizinlaw13.QuarClock': WHATEVER THE INPUT: true; the input reads as it did. -/
def quarClockSpec : ChangeSpec := { name := "quarClock", fn := fun _ => fun
  | [d1, d2] => { results := [.lit (.bool true)], args := [d1, d2] }
  | _ => none }
def quarClockRow : OpenClaim := { program := "ytldgecnmmklldaa", sum := "bb55cfeda4dcc1c88826e0b1eb52403346207083bc258bcbee849b8cae05bc87", func := "seizin/seizinlaw13.QuarClock", spec := "quarClock", unfollowed := true, recurses := true, apart := false }
def QuarClockSaid : Prop := quarClockRow.holds Try.pinned (OpenSpec.ofChange quarClockSpec)

/-- ITS FALSE NEIGHBOUR: 'it returns false'. Refute it at one input. -/
def quarClockWrong : ChangeSpec := { name := "quarClock", fn := fun _ => fun
  | [d1, d2] => { results := [.lit (.bool false)], args := [d1, d2] }
  | _ => none }
def QuarClockWrongFalsely : Prop := quarClockRow.holds Try.pinned (OpenSpec.ofChange quarClockWrong)

/-- 'seizinlaw11.SizeTells': WHATEVER THE INPUT: true; the input reads as it did. -/
def sizeTellsSpec : ChangeSpec := { name := "sizeTells", fn := fun _ => fun
  | [d] => { results := [.lit (.bool true)], args := [d] }
  | _ => none }
def sizeTellsRow : OpenClaim := { program := "ytldgecnmmklldaa", sum := "bb55cfeda4dcc1c88826e0b1eb52403346207083bc258bcbee849b8cae05bc87", func := "seizin/seizinlaw11.SizeTells", spec := "sizeTells", apart := false }
def SizeTellsSaid : Prop := sizeTellsRow.holds Try.pinned (OpenSpec.ofChange sizeTellsSpec)

/-- ITS FALSE NEIGHBOUR: 'it returns false'. Refute it at one input. -/
def sizeTellsWrong : ChangeSpec := { name := "sizeTells", fn := fun _ => fun
  | [d] => { results := [.lit (.bool false)], args := [d] }
  | _ => none }
def SizeTellsWrongFalsely : Prop := sizeTellsRow.holds Try.pinned (OpenSpec.ofChange sizeTellsWrong)

/-- 'seizinlaw11.SizeLeast': WHATEVER THE INPUT: true; the input reads as it did. -/
def sizeLeastSpec : ChangeSpec := { name := "sizeLeast", fn := fun _ => fun
  | [d] => { results := [.lit (.bool true)], args := [d] }
  | _ => none }
def sizeLeastRow : OpenClaim := { program := "ytldgecnmmklldaa", sum := "bb55cfeda4dcc1c88826e0b1eb52403346207083bc258bcbee849b8cae05bc87", func := "seizin/seizinlaw11.SizeLeast", spec := "sizeLeast", apart := false }
def SizeLeastSaid : Prop := sizeLeastRow.holds Try.pinned (OpenSpec.ofChange sizeLeastSpec)

/-- ITS FALSE NEIGHBOUR: 'it returns false'. Refute it at one input. -/
def sizeLeastWrong : ChangeSpec := { name := "sizeLeast", fn := fun _ => fun
  | [d] => { results := [.lit (.bool false)], args := [d] }
  | _ => none }
def SizeLeastWrongFalsely : Prop := sizeLeastRow.holds Try.pinned (OpenSpec.ofChange sizeLeastWrong)

/-- 'seizinlaw11.SizeRises': WHATEVER THE INPUT: true; the input reads as it did. -/
def sizeRisesSpec : ChangeSpec := { name := "sizeRises", fn := fun _ => fun
  | [d1, d2] => { results := [.lit (.bool true)], args := [d1, d2] }
  | _ => none }
def sizeRisesRow : OpenClaim := { program := "ytldgecnmmklldaa", sum := "bb55cfeda4dcc1c88826e0b1eb52403346207083bc258bcbee849b8cae05bc87", func := "seizin/seizinlaw11.SizeRises", spec := "sizeRises", apart := false }
def SizeRisesSaid : Prop := sizeRisesRow.holds Try.pinned (OpenSpec.ofChange sizeRisesSpec)

/-- ITS FALSE NEIGHBOUR: 'it returns false'. Refute it at one input. -/
def sizeRisesWrong : ChangeSpec := { name := "sizeRises", fn := fun _ => fun
  | [d1, d2] => { results := [.lit (.bool false)], args := [d1, d2] }
  | _ => none }
def SizeRisesWrongFalsely : Prop := sizeRisesRow.holds Try.pinned (OpenSpec.ofChange sizeRisesWrong)

/-- 'seizinlaw11.SizeClasses': WHATEVER THE INPUT: true; the input reads as it did. -/
def sizeClassesSpec : ChangeSpec := { name := "sizeClasses", fn := fun _ => fun
  | [d] => { results := [.lit (.bool true)], args := [d] }
  | _ => none }
def sizeClassesRow : OpenClaim := { program := "ytldgecnmmklldaa", sum := "bb55cfeda4dcc1c88826e0b1eb52403346207083bc258bcbee849b8cae05bc87", func := "seizin/seizinlaw11.SizeClasses", spec := "sizeClasses", apart := false }
def SizeClassesSaid : Prop := sizeClassesRow.holds Try.pinned (OpenSpec.ofChange sizeClassesSpec)

/-- ITS FALSE NEIGHBOUR: 'it returns false'. Refute it at one input. -/
def sizeClassesWrong : ChangeSpec := { name := "sizeClasses", fn := fun _ => fun
  | [d] => { results := [.lit (.bool false)], args := [d] }
  | _ => none }
def SizeClassesWrongFalsely : Prop := sizeClassesRow.holds Try.pinned (OpenSpec.ofChange sizeClassesWrong)

/-- 'seizinlaw11.SizeSums': WHATEVER THE INPUT: true; the input reads as it did. -/
def sizeSumsSpec : ChangeSpec := { name := "sizeSums", fn := fun _ => fun
  | [d1, d2] => { results := [.lit (.bool true)], args := [d1, d2] }
  | _ => none }
def sizeSumsRow : OpenClaim := { program := "ytldgecnmmklldaa", sum := "bb55cfeda4dcc1c88826e0b1eb52403346207083bc258bcbee849b8cae05bc87", func := "seizin/seizinlaw11.SizeSums", spec := "sizeSums", apart := false }
def SizeSumsSaid : Prop := sizeSumsRow.holds Try.pinned (OpenSpec.ofChange sizeSumsSpec)

/-- ITS FALSE NEIGHBOUR: 'it returns false'. Refute it at one input. -/
def sizeSumsWrong : ChangeSpec := { name := "sizeSums", fn := fun _ => fun
  | [d1, d2] => { results := [.lit (.bool false)], args := [d1, d2] }
  | _ => none }
def SizeSumsWrongFalsely : Prop := sizeSumsRow.holds Try.pinned (OpenSpec.ofChange sizeSumsWrong)

/- THE SECOND FORM. 'bulk': how many values and letters a reading holds, each counted each time it is reached (what is shared counts as often as it is met; a slice's spare places count too). A statement '..UptoSaid' is the law's where the arguments, and the package variables that the reading takes, are together of bulk at most 1048576: NARROWER than '..Said'. Prove '..Said' where nothing that the law and all that it calls make is longer than what came in: it says more and counts as full. Else prove '..UptoSaid'. A law counts once. -/
mutual
def uptoBulk {H : Type} : DataW H → Nat
  | .lit (.string bytes) => bytes.length + 1
  | .lit _ => 1
  | .nil => 1
  | .ptr d => uptoBulk d + 1
  | .slice elems spare => uptoBulkAll elems + uptoBulkAll spare + 1
  | .agg parts => uptoBulkAll parts + 1
  | .iface _ d => uptoBulk d + 1
  | .map entries => uptoBulkEntries entries + 1
  | .held _ => 1
def uptoBulkAll {H : Type} : List (DataW H) → Nat
  | [] => 0
  | d :: r => uptoBulk d + uptoBulkAll r
def uptoBulkEntries {H : Type} : List (Lit × DataW H) → Nat
  | [] => 0
  | x :: r => uptoBulkEntry x + uptoBulkEntries r
def uptoBulkEntry {H : Type} : Lit × DataW H → Nat
  | (.string bytes, d) => bytes.length + uptoBulk d + 1
  | (_, d) => uptoBulk d + 1
 end
def uptoSmall : (H : Type) → List (DataW H) → Bool := fun _ ds => decide (uptoBulkAll ds ≤ 1048576)
def OpenSpec.upto (s : _root_.Go.ChangeSpec) : _root_.Go.OpenSpec := { _root_.Go.OpenSpec.ofChange s with cond := some uptoSmall }

/-- 'seizinlaw13.QuarBounds', WHERE WHAT IT READS IS OF BULK AT MOST 1048576: true; the input reads as it did. -/
def quarBoundsUptoRow : OpenClaim := { program := "ytldgecnmmklldaa", sum := "bb55cfeda4dcc1c88826e0b1eb52403346207083bc258bcbee849b8cae05bc87", func := "seizin/seizinlaw13.QuarBounds", spec := "quarBounds", unfollowed := true, recurses := true, apart := false, narrowed := true }
def QuarBoundsUptoSaid : Prop := quarBoundsUptoRow.holds Try.pinned (OpenSpec.upto quarBoundsSpec)

/-- 'seizinlaw13.QuarPlays', WHERE WHAT IT READS IS OF BULK AT MOST 1048576: true; the input reads as it did. -/
def quarPlaysUptoRow : OpenClaim := { program := "ytldgecnmmklldaa", sum := "bb55cfeda4dcc1c88826e0b1eb52403346207083bc258bcbee849b8cae05bc87", func := "seizin/seizinlaw13.QuarPlays", spec := "quarPlays", unfollowed := true, recurses := true, apart := false, narrowed := true }
def QuarPlaysUptoSaid : Prop := quarPlaysUptoRow.holds Try.pinned (OpenSpec.upto quarPlaysSpec)

/-- 'seizinlaw13.QuarOrder', WHERE WHAT IT READS IS OF BULK AT MOST 1048576: true; the input reads as it did. -/
def quarOrderUptoRow : OpenClaim := { program := "ytldgecnmmklldaa", sum := "bb55cfeda4dcc1c88826e0b1eb52403346207083bc258bcbee849b8cae05bc87", func := "seizin/seizinlaw13.QuarOrder", spec := "quarOrder", unfollowed := true, recurses := true, apart := false, narrowed := true }
def QuarOrderUptoSaid : Prop := quarOrderUptoRow.holds Try.pinned (OpenSpec.upto quarOrderSpec)

/-- 'seizinlaw13.QuarAll', WHERE WHAT IT READS IS OF BULK AT MOST 1048576: true; the input reads as it did. -/
def quarAllUptoRow : OpenClaim := { program := "ytldgecnmmklldaa", sum := "bb55cfeda4dcc1c88826e0b1eb52403346207083bc258bcbee849b8cae05bc87", func := "seizin/seizinlaw13.QuarAll", spec := "quarAll", unfollowed := true, recurses := true, apart := false, narrowed := true }
def QuarAllUptoSaid : Prop := quarAllUptoRow.holds Try.pinned (OpenSpec.upto quarAllSpec)

/-- 'seizinlaw13.QuarClock', WHERE WHAT IT READS IS OF BULK AT MOST 1048576: true; the input reads as it did. -/
def quarClockUptoRow : OpenClaim := { program := "ytldgecnmmklldaa", sum := "bb55cfeda4dcc1c88826e0b1eb52403346207083bc258bcbee849b8cae05bc87", func := "seizin/seizinlaw13.QuarClock", spec := "quarClock", unfollowed := true, recurses := true, apart := false, narrowed := true }
def QuarClockUptoSaid : Prop := quarClockUptoRow.holds Try.pinned (OpenSpec.upto quarClockSpec)

/-- 'seizinlaw11.SizeTells', WHERE WHAT IT READS IS OF BULK AT MOST 1048576: true; the input reads as it did. -/
def sizeTellsUptoRow : OpenClaim := { program := "ytldgecnmmklldaa", sum := "bb55cfeda4dcc1c88826e0b1eb52403346207083bc258bcbee849b8cae05bc87", func := "seizin/seizinlaw11.SizeTells", spec := "sizeTells", apart := false, narrowed := true }
def SizeTellsUptoSaid : Prop := sizeTellsUptoRow.holds Try.pinned (OpenSpec.upto sizeTellsSpec)

/-- 'seizinlaw11.SizeLeast', WHERE WHAT IT READS IS OF BULK AT MOST 1048576: true; the input reads as it did. -/
def sizeLeastUptoRow : OpenClaim := { program := "ytldgecnmmklldaa", sum := "bb55cfeda4dcc1c88826e0b1eb52403346207083bc258bcbee849b8cae05bc87", func := "seizin/seizinlaw11.SizeLeast", spec := "sizeLeast", apart := false, narrowed := true }
def SizeLeastUptoSaid : Prop := sizeLeastUptoRow.holds Try.pinned (OpenSpec.upto sizeLeastSpec)

/-- 'seizinlaw11.SizeRises', WHERE WHAT IT READS IS OF BULK AT MOST 1048576: true; the input reads as it did. -/
def sizeRisesUptoRow : OpenClaim := { program := "ytldgecnmmklldaa", sum := "bb55cfeda4dcc1c88826e0b1eb52403346207083bc258bcbee849b8cae05bc87", func := "seizin/seizinlaw11.SizeRises", spec := "sizeRises", apart := false, narrowed := true }
def SizeRisesUptoSaid : Prop := sizeRisesUptoRow.holds Try.pinned (OpenSpec.upto sizeRisesSpec)

/-- 'seizinlaw11.SizeClasses', WHERE WHAT IT READS IS OF BULK AT MOST 1048576: true; the input reads as it did. -/
def sizeClassesUptoRow : OpenClaim := { program := "ytldgecnmmklldaa", sum := "bb55cfeda4dcc1c88826e0b1eb52403346207083bc258bcbee849b8cae05bc87", func := "seizin/seizinlaw11.SizeClasses", spec := "sizeClasses", apart := false, narrowed := true }
def SizeClassesUptoSaid : Prop := sizeClassesUptoRow.holds Try.pinned (OpenSpec.upto sizeClassesSpec)

/-- 'seizinlaw11.SizeSums', WHERE WHAT IT READS IS OF BULK AT MOST 1048576: true; the input reads as it did. -/
def sizeSumsUptoRow : OpenClaim := { program := "ytldgecnmmklldaa", sum := "bb55cfeda4dcc1c88826e0b1eb52403346207083bc258bcbee849b8cae05bc87", func := "seizin/seizinlaw11.SizeSums", spec := "sizeSums", apart := false, narrowed := true }
def SizeSumsUptoSaid : Prop := sizeSumsUptoRow.holds Try.pinned (OpenSpec.upto sizeSumsSpec)

end Rows
end Go.Proofs.Ytldgecnmmklldaa
