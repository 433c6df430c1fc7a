/-
  NARROWER THAN 'FOR EVERY INPUT', by the rows' own cells (each row's printed sentence says how): PadsParses: laid · PadsWords: laid · PadsNames: laid · PadsTells: laid.
  DERIVED. THE GIVEN ROWS OF THIS SEAT. 4 by the template 'for every input the law returns true; each argument reads behind the call as it read before'; 0 by the template 'total and deterministic' (their statements: YthmbgcmhdmekmaaDoorTotals.lean).
  GIVEN WITH THE SEED: the statements are not yours to turn. If you find one false, say at which input.
  Laid BY PROGRAM, IN A SANDBOX (cutbox-rows.mjs): the forced cells as the released guide's own fill.sh prints them over the translation a6fd23c551a6d00d… (all of the seat's roots in one cut). By AI agents, Wed Nov 11 2026. No macro, syntax, notation, axiom, sorry.
-/
import Derived.Test.YthmbgcmhdmekmaaDoorChecked
import GoSem.PinnedTables
import GoSem.Claim
import GoSem.ClaimJoined
import GoSem.ClaimMapViews
import Derived.JoinedTies
import Derived.KernelRfl
namespace Go.Proofs.YthmbgcmhdmekmaaDoor
/- THE CELL 'sum', in the pinned program and in every row, IS THE sha256 OF THE DUMP (.gsa) THAT YthmbgcmhdmekmaaDoorProg.lean LOADS. Nothing in Lean hashes anything: it is a label: what it is worth is what the hold of that sum in a sandbox is worth. -/
noncomputable def Tryd.pinned : Pinned := { name := "ythmbgcmhdmekmaadoor", sum := "a6fd23c551a6d00deaf83fbb8ed498c78797054ce8a83b335f284f6859038cdc", checked := Tryd.checked }
namespace Rows
def none {H : Type} : Left H := { results := [], args := [] }

/- WHAT THE LISTED PACKAGE-LEVEL VARIABLES READ AS WHEN THE CALL BEGINS. Each datum BY PROGRAM (the guide's laid-datum.mjs) off the statement by which the dump's own 'gosem.cut.vars' lays the variable. In a bare row this is a premise. The card (YthmbgcmhdmekmaaDoorCards.lean) ties it to the program's text. -/
def laid_unicode_utf8_acceptRanges {H : Type} : DataW H := .agg [.agg [.lit (.int .u8 128), .lit (.int .u8 191)], .agg [.lit (.int .u8 160), .lit (.int .u8 191)], .agg [.lit (.int .u8 128), .lit (.int .u8 159)], .agg [.lit (.int .u8 144), .lit (.int .u8 191)], .agg [.lit (.int .u8 128), .lit (.int .u8 143)], .agg [.lit (.int .u8 0), .lit (.int .u8 0)], .agg [.lit (.int .u8 0), .lit (.int .u8 0)], .agg [.lit (.int .u8 0), .lit (.int .u8 0)], .agg [.lit (.int .u8 0), .lit (.int .u8 0)], .agg [.lit (.int .u8 0), .lit (.int .u8 0)], .agg [.lit (.int .u8 0), .lit (.int .u8 0)], .agg [.lit (.int .u8 0), .lit (.int .u8 0)], .agg [.lit (.int .u8 0), .lit (.int .u8 0)], .agg [.lit (.int .u8 0), .lit (.int .u8 0)], .agg [.lit (.int .u8 0), .lit (.int .u8 0)], .agg [.lit (.int .u8 0), .lit (.int .u8 0)]]
/-- One of Go's own tables, pinned by name: the form's constant. -/
def laid_unicode_utf8_first : DataW Unit := Go.Pinned.utf8First

/-- 'joysticklaw21.PadsParses': WHATEVER THE INPUT: true; the input reads as it did. -/
def padsParsesSpec : ChangeSpec := { name := "padsParses", fn := fun _ => fun
  | [d] => { results := [.lit (.bool true)], args := [d] }
  | _ => none }
def padsParsesRow : OpenClaim := { program := "ythmbgcmhdmekmaadoor", sum := "a6fd23c551a6d00deaf83fbb8ed498c78797054ce8a83b335f284f6859038cdc", func := "joystick/joysticklaw21.PadsParses", spec := "padsParses", inPlace := ["internal/abi.NoEscape", "internal/bytealg.CountString", "internal/bytealg.IndexByteString", "internal/bytealg.IndexString"], named := ["unicode/utf8.first", "unicode/utf8.acceptRanges", "internal/bytealg.MaxLen"], apart := false, laid := [("unicode/utf8.acceptRanges", laid_unicode_utf8_acceptRanges), ("unicode/utf8.first", laid_unicode_utf8_first)] }
def PadsParsesSaid : Prop := padsParsesRow.holds Tryd.pinned (OpenSpec.ofChange padsParsesSpec)

/-- ITS FALSE NEIGHBOUR: 'it returns false'. Refute it at one input. -/
def padsParsesWrong : ChangeSpec := { name := "padsParses", fn := fun _ => fun
  | [d] => { results := [.lit (.bool false)], args := [d] }
  | _ => none }
def PadsParsesWrongFalsely : Prop := padsParsesRow.holds Tryd.pinned (OpenSpec.ofChange padsParsesWrong)

/-- 'joysticklaw21.PadsWords': WHATEVER THE INPUT: true; the input reads as it did. -/
def padsWordsSpec : ChangeSpec := { name := "padsWords", fn := fun _ => fun
  | [d1, d2] => { results := [.lit (.bool true)], args := [d1, d2] }
  | _ => none }
def padsWordsRow : OpenClaim := { program := "ythmbgcmhdmekmaadoor", sum := "a6fd23c551a6d00deaf83fbb8ed498c78797054ce8a83b335f284f6859038cdc", func := "joystick/joysticklaw21.PadsWords", spec := "padsWords", inPlace := ["internal/abi.NoEscape", "internal/bytealg.CountString", "internal/bytealg.IndexByteString", "internal/bytealg.IndexString"], named := ["unicode/utf8.first", "unicode/utf8.acceptRanges", "internal/bytealg.MaxLen"], apart := false, laid := [("unicode/utf8.acceptRanges", laid_unicode_utf8_acceptRanges), ("unicode/utf8.first", laid_unicode_utf8_first)] }
def PadsWordsSaid : Prop := padsWordsRow.holds Tryd.pinned (OpenSpec.ofChange padsWordsSpec)

/-- ITS FALSE NEIGHBOUR: 'it returns false'. Refute it at one input. -/
def padsWordsWrong : ChangeSpec := { name := "padsWords", fn := fun _ => fun
  | [d1, d2] => { results := [.lit (.bool false)], args := [d1, d2] }
  | _ => none }
def PadsWordsWrongFalsely : Prop := padsWordsRow.holds Tryd.pinned (OpenSpec.ofChange padsWordsWrong)

/-- 'joysticklaw21.PadsNames': WHATEVER THE INPUT: true; the input reads as it did. -/
def padsNamesSpec : ChangeSpec := { name := "padsNames", fn := fun _ => fun
  | [] => { results := [.lit (.bool true)], args := [] }
  | _ => none }
def padsNamesRow : OpenClaim := { program := "ythmbgcmhdmekmaadoor", sum := "a6fd23c551a6d00deaf83fbb8ed498c78797054ce8a83b335f284f6859038cdc", func := "joystick/joysticklaw21.PadsNames", spec := "padsNames", inPlace := ["internal/bytealg.CountString", "internal/bytealg.IndexByteString", "internal/bytealg.IndexString", "internal/abi.NoEscape"], named := ["unicode/utf8.first", "unicode/utf8.acceptRanges", "internal/bytealg.MaxLen"], apart := false, laid := [("unicode/utf8.acceptRanges", laid_unicode_utf8_acceptRanges), ("unicode/utf8.first", laid_unicode_utf8_first)] }
def PadsNamesSaid : Prop := padsNamesRow.holds Tryd.pinned (OpenSpec.ofChange padsNamesSpec)

/-- ITS FALSE NEIGHBOUR: 'it returns false'. Refute it at one input. -/
def padsNamesWrong : ChangeSpec := { name := "padsNames", fn := fun _ => fun
  | [] => { results := [.lit (.bool false)], args := [] }
  | _ => none }
def PadsNamesWrongFalsely : Prop := padsNamesRow.holds Tryd.pinned (OpenSpec.ofChange padsNamesWrong)

/-- 'joysticklaw21.PadsTells': WHATEVER THE INPUT: true; the input reads as it did. -/
def padsTellsSpec : ChangeSpec := { name := "padsTells", fn := fun _ => fun
  | [d1, d2] => { results := [.lit (.bool true)], args := [d1, d2] }
  | _ => none }
def padsTellsRow : OpenClaim := { program := "ythmbgcmhdmekmaadoor", sum := "a6fd23c551a6d00deaf83fbb8ed498c78797054ce8a83b335f284f6859038cdc", func := "joystick/joysticklaw21.PadsTells", spec := "padsTells", inPlace := ["internal/abi.NoEscape", "internal/bytealg.CountString", "internal/bytealg.IndexByteString", "internal/bytealg.IndexString"], named := ["unicode/utf8.first", "unicode/utf8.acceptRanges", "internal/bytealg.MaxLen"], apart := false, laid := [("unicode/utf8.acceptRanges", laid_unicode_utf8_acceptRanges), ("unicode/utf8.first", laid_unicode_utf8_first)] }
def PadsTellsSaid : Prop := padsTellsRow.holds Tryd.pinned (OpenSpec.ofChange padsTellsSpec)

/-- ITS FALSE NEIGHBOUR: 'it returns false'. Refute it at one input. -/
def padsTellsWrong : ChangeSpec := { name := "padsTells", fn := fun _ => fun
  | [d1, d2] => { results := [.lit (.bool false)], args := [d1, d2] }
  | _ => none }
def PadsTellsWrongFalsely : Prop := padsTellsRow.holds Tryd.pinned (OpenSpec.ofChange padsTellsWrong)

/- THE SECOND FORM. 'bulk': how many values and letters a reading holds, each counted each time it is reached (what is shared counts as often as it is met; a slice's spare places count too). A statement '..UptoSaid' is the law's where the arguments, and the package variables that the reading takes, are together of bulk at most 1048576: NARROWER than '..Said'. Prove '..Said' where nothing that the law and all that it calls make is longer than what came in: it says more and counts as full. Else prove '..UptoSaid'. A law counts once. -/
mutual
def uptoBulk {H : Type} : DataW H → Nat
  | .lit (.string bytes) => bytes.length + 1
  | .lit _ => 1
  | .nil => 1
  | .ptr d => uptoBulk d + 1
  | .slice elems spare => uptoBulkAll elems + uptoBulkAll spare + 1
  | .agg parts => uptoBulkAll parts + 1
  | .iface _ d => uptoBulk d + 1
  | .map entries => uptoBulkEntries entries + 1
  | .held _ => 1
def uptoBulkAll {H : Type} : List (DataW H) → Nat
  | [] => 0
  | d :: r => uptoBulk d + uptoBulkAll r
def uptoBulkEntries {H : Type} : List (Lit × DataW H) → Nat
  | [] => 0
  | x :: r => uptoBulkEntry x + uptoBulkEntries r
def uptoBulkEntry {H : Type} : Lit × DataW H → Nat
  | (.string bytes, d) => bytes.length + uptoBulk d + 1
  | (_, d) => uptoBulk d + 1
 end
def uptoSmall : (H : Type) → List (DataW H) → Bool := fun _ ds => decide (uptoBulkAll ds ≤ 1048576)
def OpenSpec.upto (s : _root_.Go.ChangeSpec) : _root_.Go.OpenSpec := { _root_.Go.OpenSpec.ofChange s with cond := some uptoSmall }

/-- 'joysticklaw21.PadsParses', WHERE WHAT IT READS IS OF BULK AT MOST 1048576: true; the input reads as it did. -/
def padsParsesUptoRow : OpenClaim := { program := "ythmbgcmhdmekmaadoor", sum := "a6fd23c551a6d00deaf83fbb8ed498c78797054ce8a83b335f284f6859038cdc", func := "joystick/joysticklaw21.PadsParses", spec := "padsParses", inPlace := ["internal/abi.NoEscape", "internal/bytealg.CountString", "internal/bytealg.IndexByteString", "internal/bytealg.IndexString"], named := ["unicode/utf8.first", "unicode/utf8.acceptRanges", "internal/bytealg.MaxLen"], apart := false, laid := [("unicode/utf8.acceptRanges", laid_unicode_utf8_acceptRanges), ("unicode/utf8.first", laid_unicode_utf8_first)], narrowed := true }
def PadsParsesUptoSaid : Prop := padsParsesUptoRow.holds Tryd.pinned (OpenSpec.upto padsParsesSpec)

/-- 'joysticklaw21.PadsWords', WHERE WHAT IT READS IS OF BULK AT MOST 1048576: true; the input reads as it did. -/
def padsWordsUptoRow : OpenClaim := { program := "ythmbgcmhdmekmaadoor", sum := "a6fd23c551a6d00deaf83fbb8ed498c78797054ce8a83b335f284f6859038cdc", func := "joystick/joysticklaw21.PadsWords", spec := "padsWords", inPlace := ["internal/abi.NoEscape", "internal/bytealg.CountString", "internal/bytealg.IndexByteString", "internal/bytealg.IndexString"], named := ["unicode/utf8.first", "unicode/utf8.acceptRanges", "internal/bytealg.MaxLen"], apart := false, laid := [("unicode/utf8.acceptRanges", laid_unicode_utf8_acceptRanges), ("unicode/utf8.first", laid_unicode_utf8_first)], narrowed := true }
def PadsWordsUptoSaid : Prop := padsWordsUptoRow.holds Tryd.pinned (OpenSpec.upto padsWordsSpec)

/-- 'joysticklaw21.PadsNames', WHERE WHAT IT READS IS OF BULK AT MOST 1048576: true; the input reads as it did. -/
def padsNamesUptoRow : OpenClaim := { program := "ythmbgcmhdmekmaadoor", sum := "a6fd23c551a6d00deaf83fbb8ed498c78797054ce8a83b335f284f6859038cdc", func := "joystick/joysticklaw21.PadsNames", spec := "padsNames", inPlace := ["internal/bytealg.CountString", "internal/bytealg.IndexByteString", "internal/bytealg.IndexString", "internal/abi.NoEscape"], named := ["unicode/utf8.first", "unicode/utf8.acceptRanges", "internal/bytealg.MaxLen"], apart := false, laid := [("unicode/utf8.acceptRanges", laid_unicode_utf8_acceptRanges), ("unicode/utf8.first", laid_unicode_utf8_first)], narrowed := true }
def PadsNamesUptoSaid : Prop := padsNamesUptoRow.holds Tryd.pinned (OpenSpec.upto padsNamesSpec)

/-- 'joysticklaw21.PadsTells', WHERE WHAT IT READS IS OF BULK AT MOST 1048576: true; the input reads as it did. -/
def padsTellsUptoRow : OpenClaim := { program := "ythmbgcmhdmekmaadoor", sum := "a6fd23c551a6d00deaf83fbb8ed498c78797054ce8a83b335f284f6859038cdc", func := "joystick/joysticklaw21.PadsTells", spec := "padsTells", inPlace := ["internal/abi.NoEscape", "internal/bytealg.CountString", "internal/bytealg.IndexByteString", "internal/bytealg.IndexString"], named := ["unicode/utf8.first", "unicode/utf8.acceptRanges", "internal/bytealg.MaxLen"], apart := false, laid := [("unicode/utf8.acceptRanges", laid_unicode_utf8_acceptRanges), ("unicode/utf8.first", laid_unicode_utf8_first)], narrowed := true }
def PadsTellsUptoSaid : Prop := padsTellsUptoRow.holds Tryd.pinned (OpenSpec.upto padsTellsSpec)

end Rows
end Go.Proofs.YthmbgcmhdmekmaaDoor
