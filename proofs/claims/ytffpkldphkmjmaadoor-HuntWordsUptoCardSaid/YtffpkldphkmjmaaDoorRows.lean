/-
  NARROWER THAN 'FOR EVERY INPUT', by the rows' own cells (each row's printed sentence says how): HuntNexts: laid · HuntUnders: laid · HuntRounds: laid · HuntKeeps: laid · HuntWords: laid · HuntRests: laid.
  DERIVED. THE GIVEN ROWS OF THIS SEAT. 6 by the template 'for every input the law returns true; each argument reads behind the call as it read before'; 0 by the template 'total and deterministic' (their statements: YtffpkldphkmjmaaDoorTotals.lean).
  GIVEN WITH THE SEED: the statements are not yours to turn. If you find one false, say at which input.
  Laid BY PROGRAM, IN A SANDBOX (cutbox-rows.mjs): the forced cells as the released guide's own fill.sh prints them over the translation 85c0bcbf4e20794d… (all of the seat's roots in one cut). By AI agents, Wed Nov 11 2026. No macro, syntax, notation, axiom, sorry.
-/
import Derived.Test.YtffpkldphkmjmaaDoorChecked
import GoSem.PinnedTables
import GoSem.Claim
import GoSem.ClaimJoined
import GoSem.ClaimMapViews
import Derived.JoinedTies
import Derived.KernelRfl
namespace Go.Proofs.YtffpkldphkmjmaaDoor
/- THE CELL 'sum', in the pinned program and in every row, IS THE sha256 OF THE DUMP (.gsa) THAT YtffpkldphkmjmaaDoorProg.lean LOADS. Nothing in Lean hashes anything: it is a label: what it is worth is what the hold of that sum in a sandbox is worth. -/
noncomputable def Tryd.pinned : Pinned := { name := "ytffpkldphkmjmaadoor", sum := "85c0bcbf4e20794d6f6b04dde8ef6a1dfc49bd3529e84b3385bc5f3bc6e5fbd1", checked := Tryd.checked }
namespace Rows
def none {H : Type} : Left H := { results := [], args := [] }

/- WHAT THE LISTED PACKAGE-LEVEL VARIABLES READ AS WHEN THE CALL BEGINS. Each datum BY PROGRAM (the guide's laid-datum.mjs) off the statement by which the dump's own 'gosem.cut.vars' lays the variable. In a bare row this is a premise. The card (YtffpkldphkmjmaaDoorCards.lean) ties it to the program's text. -/
def laid_unicode_utf8_acceptRanges {H : Type} : DataW H := .agg [.agg [.lit (.int .u8 128), .lit (.int .u8 191)], .agg [.lit (.int .u8 160), .lit (.int .u8 191)], .agg [.lit (.int .u8 128), .lit (.int .u8 159)], .agg [.lit (.int .u8 144), .lit (.int .u8 191)], .agg [.lit (.int .u8 128), .lit (.int .u8 143)], .agg [.lit (.int .u8 0), .lit (.int .u8 0)], .agg [.lit (.int .u8 0), .lit (.int .u8 0)], .agg [.lit (.int .u8 0), .lit (.int .u8 0)], .agg [.lit (.int .u8 0), .lit (.int .u8 0)], .agg [.lit (.int .u8 0), .lit (.int .u8 0)], .agg [.lit (.int .u8 0), .lit (.int .u8 0)], .agg [.lit (.int .u8 0), .lit (.int .u8 0)], .agg [.lit (.int .u8 0), .lit (.int .u8 0)], .agg [.lit (.int .u8 0), .lit (.int .u8 0)], .agg [.lit (.int .u8 0), .lit (.int .u8 0)], .agg [.lit (.int .u8 0), .lit (.int .u8 0)]]
def laid_bytes_ErrTooLarge {H : Type} : DataW H := .iface "*errors.errorString" (.ptr (.agg [.lit (.string [98, 121, 116, 101, 115, 46, 66, 117, 102, 102, 101, 114, 58, 32, 116, 111, 111, 32, 108, 97, 114, 103, 101])]))
/-- One of Go's own tables, pinned by name: the form's constant. -/
def laid_unicode_utf8_first : DataW Unit := Go.Pinned.utf8First

/-- 'quoinlaw12.HuntNexts': WHATEVER THE INPUT: true; the input reads as it did. -/
def huntNextsSpec : ChangeSpec := { name := "huntNexts", fn := fun _ => fun
  | [d] => { results := [.lit (.bool true)], args := [d] }
  | _ => none }
def huntNextsRow : OpenClaim := { program := "ytffpkldphkmjmaadoor", sum := "85c0bcbf4e20794d6f6b04dde8ef6a1dfc49bd3529e84b3385bc5f3bc6e5fbd1", func := "quoin/quoinlaw12.HuntNexts", spec := "huntNexts", inPlace := ["internal/bytealg.Count", "internal/bytealg.IndexByte", "internal/bytealg.Index", "internal/bytealg.IndexByteString"], unfollowed := true, recurses := true, named := ["unicode/utf8.first", "unicode/utf8.acceptRanges", "internal/bytealg.MaxLen", "bytes.ErrTooLarge"], apart := false, laid := [("unicode/utf8.acceptRanges", laid_unicode_utf8_acceptRanges), ("bytes.ErrTooLarge", laid_bytes_ErrTooLarge), ("unicode/utf8.first", laid_unicode_utf8_first)] }
def HuntNextsSaid : Prop := huntNextsRow.holds Tryd.pinned (OpenSpec.ofChange huntNextsSpec)

/-- ITS FALSE NEIGHBOUR: 'it returns false'. Refute it at one input. -/
def huntNextsWrong : ChangeSpec := { name := "huntNexts", fn := fun _ => fun
  | [d] => { results := [.lit (.bool false)], args := [d] }
  | _ => none }
def HuntNextsWrongFalsely : Prop := huntNextsRow.holds Tryd.pinned (OpenSpec.ofChange huntNextsWrong)

/-- 'quoinlaw12.HuntUnders': WHATEVER THE INPUT: true; the input reads as it did. -/
def huntUndersSpec : ChangeSpec := { name := "huntUnders", fn := fun _ => fun
  | [d1, d2] => { results := [.lit (.bool true)], args := [d1, d2] }
  | _ => none }
def huntUndersRow : OpenClaim := { program := "ytffpkldphkmjmaadoor", sum := "85c0bcbf4e20794d6f6b04dde8ef6a1dfc49bd3529e84b3385bc5f3bc6e5fbd1", func := "quoin/quoinlaw12.HuntUnders", spec := "huntUnders", inPlace := ["internal/bytealg.Count", "internal/bytealg.IndexByte", "internal/bytealg.Index", "internal/bytealg.IndexByteString"], unfollowed := true, recurses := true, named := ["unicode/utf8.first", "unicode/utf8.acceptRanges", "internal/bytealg.MaxLen", "bytes.ErrTooLarge"], apart := false, laid := [("unicode/utf8.acceptRanges", laid_unicode_utf8_acceptRanges), ("bytes.ErrTooLarge", laid_bytes_ErrTooLarge), ("unicode/utf8.first", laid_unicode_utf8_first)] }
def HuntUndersSaid : Prop := huntUndersRow.holds Tryd.pinned (OpenSpec.ofChange huntUndersSpec)

/-- ITS FALSE NEIGHBOUR: 'it returns false'. Refute it at one input. -/
def huntUndersWrong : ChangeSpec := { name := "huntUnders", fn := fun _ => fun
  | [d1, d2] => { results := [.lit (.bool false)], args := [d1, d2] }
  | _ => none }
def HuntUndersWrongFalsely : Prop := huntUndersRow.holds Tryd.pinned (OpenSpec.ofChange huntUndersWrong)

/-- 'quoinlaw12.HuntRounds': WHATEVER THE INPUT: true; the input reads as it did. -/
def huntRoundsSpec : ChangeSpec := { name := "huntRounds", fn := fun _ => fun
  | [d] => { results := [.lit (.bool true)], args := [d] }
  | _ => none }
def huntRoundsRow : OpenClaim := { program := "ytffpkldphkmjmaadoor", sum := "85c0bcbf4e20794d6f6b04dde8ef6a1dfc49bd3529e84b3385bc5f3bc6e5fbd1", func := "quoin/quoinlaw12.HuntRounds", spec := "huntRounds", inPlace := ["internal/bytealg.Count", "internal/bytealg.IndexByte", "internal/bytealg.Index", "internal/bytealg.IndexByteString"], unfollowed := true, recurses := true, named := ["unicode/utf8.first", "unicode/utf8.acceptRanges", "internal/bytealg.MaxLen", "bytes.ErrTooLarge"], apart := false, laid := [("unicode/utf8.acceptRanges", laid_unicode_utf8_acceptRanges), ("bytes.ErrTooLarge", laid_bytes_ErrTooLarge), ("unicode/utf8.first", laid_unicode_utf8_first)] }
def HuntRoundsSaid : Prop := huntRoundsRow.holds Tryd.pinned (OpenSpec.ofChange huntRoundsSpec)

/-- ITS FALSE NEIGHBOUR: 'it returns false'. Refute it at one input. -/
def huntRoundsWrong : ChangeSpec := { name := "huntRounds", fn := fun _ => fun
  | [d] => { results := [.lit (.bool false)], args := [d] }
  | _ => none }
def HuntRoundsWrongFalsely : Prop := huntRoundsRow.holds Tryd.pinned (OpenSpec.ofChange huntRoundsWrong)

/-- 'quoinlaw12.HuntKeeps': WHATEVER THE INPUT: true; the input reads as it did. -/
def huntKeepsSpec : ChangeSpec := { name := "huntKeeps", fn := fun _ => fun
  | [d] => { results := [.lit (.bool true)], args := [d] }
  | _ => none }
def huntKeepsRow : OpenClaim := { program := "ytffpkldphkmjmaadoor", sum := "85c0bcbf4e20794d6f6b04dde8ef6a1dfc49bd3529e84b3385bc5f3bc6e5fbd1", func := "quoin/quoinlaw12.HuntKeeps", spec := "huntKeeps", inPlace := ["internal/bytealg.Count", "internal/bytealg.IndexByte", "internal/bytealg.Index", "internal/bytealg.IndexByteString"], unfollowed := true, recurses := true, named := ["unicode/utf8.first", "unicode/utf8.acceptRanges", "internal/bytealg.MaxLen", "bytes.ErrTooLarge"], apart := false, laid := [("unicode/utf8.acceptRanges", laid_unicode_utf8_acceptRanges), ("bytes.ErrTooLarge", laid_bytes_ErrTooLarge), ("unicode/utf8.first", laid_unicode_utf8_first)] }
def HuntKeepsSaid : Prop := huntKeepsRow.holds Tryd.pinned (OpenSpec.ofChange huntKeepsSpec)

/-- ITS FALSE NEIGHBOUR: 'it returns false'. Refute it at one input. -/
def huntKeepsWrong : ChangeSpec := { name := "huntKeeps", fn := fun _ => fun
  | [d] => { results := [.lit (.bool false)], args := [d] }
  | _ => none }
def HuntKeepsWrongFalsely : Prop := huntKeepsRow.holds Tryd.pinned (OpenSpec.ofChange huntKeepsWrong)

/-- 'quoinlaw12.HuntWords': WHATEVER THE INPUT: true; the input reads as it did. -/
def huntWordsSpec : ChangeSpec := { name := "huntWords", fn := fun _ => fun
  | [d1, d2] => { results := [.lit (.bool true)], args := [d1, d2] }
  | _ => none }
def huntWordsRow : OpenClaim := { program := "ytffpkldphkmjmaadoor", sum := "85c0bcbf4e20794d6f6b04dde8ef6a1dfc49bd3529e84b3385bc5f3bc6e5fbd1", func := "quoin/quoinlaw12.HuntWords", spec := "huntWords", inPlace := ["internal/bytealg.Count", "internal/bytealg.IndexByte", "internal/bytealg.Index", "internal/bytealg.IndexByteString"], unfollowed := true, recurses := true, named := ["unicode/utf8.first", "unicode/utf8.acceptRanges", "internal/bytealg.MaxLen", "bytes.ErrTooLarge"], apart := false, laid := [("unicode/utf8.acceptRanges", laid_unicode_utf8_acceptRanges), ("bytes.ErrTooLarge", laid_bytes_ErrTooLarge), ("unicode/utf8.first", laid_unicode_utf8_first)] }
def HuntWordsSaid : Prop := huntWordsRow.holds Tryd.pinned (OpenSpec.ofChange huntWordsSpec)

/-- ITS FALSE NEIGHBOUR: 'it returns false'. Refute it at one input. -/
def huntWordsWrong : ChangeSpec := { name := "huntWords", fn := fun _ => fun
  | [d1, d2] => { results := [.lit (.bool false)], args := [d1, d2] }
  | _ => none }
def HuntWordsWrongFalsely : Prop := huntWordsRow.holds Tryd.pinned (OpenSpec.ofChange huntWordsWrong)

/-- 'quoinlaw12.HuntRests': WHATEVER THE INPUT: true; the input reads as it did. -/
def huntRestsSpec : ChangeSpec := { name := "huntRests", fn := fun _ => fun
  | [d] => { results := [.lit (.bool true)], args := [d] }
  | _ => none }
def huntRestsRow : OpenClaim := { program := "ytffpkldphkmjmaadoor", sum := "85c0bcbf4e20794d6f6b04dde8ef6a1dfc49bd3529e84b3385bc5f3bc6e5fbd1", func := "quoin/quoinlaw12.HuntRests", spec := "huntRests", inPlace := ["internal/bytealg.Count", "internal/bytealg.IndexByte", "internal/bytealg.Index", "internal/bytealg.IndexByteString"], unfollowed := true, recurses := true, named := ["unicode/utf8.first", "unicode/utf8.acceptRanges", "internal/bytealg.MaxLen", "bytes.ErrTooLarge"], apart := false, laid := [("unicode/utf8.acceptRanges", laid_unicode_utf8_acceptRanges), ("bytes.ErrTooLarge", laid_bytes_ErrTooLarge), ("unicode/utf8.first", laid_unicode_utf8_first)] }
def HuntRestsSaid : Prop := huntRestsRow.holds Tryd.pinned (OpenSpec.ofChange huntRestsSpec)

/-- ITS FALSE NEIGHBOUR: 'it returns false'. Refute it at one input. -/
def huntRestsWrong : ChangeSpec := { name := "huntRests", fn := fun _ => fun
  | [d] => { results := [.lit (.bool false)], args := [d] }
  | _ => none }
def HuntRestsWrongFalsely : Prop := huntRestsRow.holds Tryd.pinned (OpenSpec.ofChange huntRestsWrong)

/- THE SECOND FORM. 'bulk': how many values and letters a reading holds, each counted each time it is reached (what is shared counts as often as it is met; a slice's spare places count too). A statement '..UptoSaid' is the law's where the arguments, and the package variables that the reading takes, are together of bulk at most 1048576: NARROWER than '..Said'. Prove '..Said' where nothing that the law and all that it calls make is longer than what came in: it says more and counts as full. Else prove '..UptoSaid'. A law counts once. -/
mutual
def uptoBulk {H : Type} : DataW H → Nat
  | .lit (.string bytes) => bytes.length + 1
  | .lit _ => 1
  | .nil => 1
  | .ptr d => uptoBulk d + 1
  | .slice elems spare => uptoBulkAll elems + uptoBulkAll spare + 1
  | .agg parts => uptoBulkAll parts + 1
  | .iface _ d => uptoBulk d + 1
  | .map entries => uptoBulkEntries entries + 1
  | .held _ => 1
def uptoBulkAll {H : Type} : List (DataW H) → Nat
  | [] => 0
  | d :: r => uptoBulk d + uptoBulkAll r
def uptoBulkEntries {H : Type} : List (Lit × DataW H) → Nat
  | [] => 0
  | x :: r => uptoBulkEntry x + uptoBulkEntries r
def uptoBulkEntry {H : Type} : Lit × DataW H → Nat
  | (.string bytes, d) => bytes.length + uptoBulk d + 1
  | (_, d) => uptoBulk d + 1
 end
def uptoSmall : (H : Type) → List (DataW H) → Bool := fun _ ds => decide (uptoBulkAll ds ≤ 1048576)
def OpenSpec.upto (s : _root_.Go.ChangeSpec) : _root_.Go.OpenSpec := { _root_.Go.OpenSpec.ofChange s with cond := some uptoSmall }

/-- 'quoinlaw12.HuntNexts', WHERE WHAT IT READS IS OF BULK AT MOST 1048576: true; the input reads as it did. -/
def huntNextsUptoRow : OpenClaim := { program := "ytffpkldphkmjmaadoor", sum := "85c0bcbf4e20794d6f6b04dde8ef6a1dfc49bd3529e84b3385bc5f3bc6e5fbd1", func := "quoin/quoinlaw12.HuntNexts", spec := "huntNexts", inPlace := ["internal/bytealg.Count", "internal/bytealg.IndexByte", "internal/bytealg.Index", "internal/bytealg.IndexByteString"], unfollowed := true, recurses := true, named := ["unicode/utf8.first", "unicode/utf8.acceptRanges", "internal/bytealg.MaxLen", "bytes.ErrTooLarge"], apart := false, laid := [("unicode/utf8.acceptRanges", laid_unicode_utf8_acceptRanges), ("bytes.ErrTooLarge", laid_bytes_ErrTooLarge), ("unicode/utf8.first", laid_unicode_utf8_first)], narrowed := true }
def HuntNextsUptoSaid : Prop := huntNextsUptoRow.holds Tryd.pinned (OpenSpec.upto huntNextsSpec)

/-- 'quoinlaw12.HuntUnders', WHERE WHAT IT READS IS OF BULK AT MOST 1048576: true; the input reads as it did. -/
def huntUndersUptoRow : OpenClaim := { program := "ytffpkldphkmjmaadoor", sum := "85c0bcbf4e20794d6f6b04dde8ef6a1dfc49bd3529e84b3385bc5f3bc6e5fbd1", func := "quoin/quoinlaw12.HuntUnders", spec := "huntUnders", inPlace := ["internal/bytealg.Count", "internal/bytealg.IndexByte", "internal/bytealg.Index", "internal/bytealg.IndexByteString"], unfollowed := true, recurses := true, named := ["unicode/utf8.first", "unicode/utf8.acceptRanges", "internal/bytealg.MaxLen", "bytes.ErrTooLarge"], apart := false, laid := [("unicode/utf8.acceptRanges", laid_unicode_utf8_acceptRanges), ("bytes.ErrTooLarge", laid_bytes_ErrTooLarge), ("unicode/utf8.first", laid_unicode_utf8_first)], narrowed := true }
def HuntUndersUptoSaid : Prop := huntUndersUptoRow.holds Tryd.pinned (OpenSpec.upto huntUndersSpec)

/-- 'quoinlaw12.HuntRounds', WHERE WHAT IT READS IS OF BULK AT MOST 1048576: true; the input reads as it did. -/
def huntRoundsUptoRow : OpenClaim := { program := "ytffpkldphkmjmaadoor", sum := "85c0bcbf4e20794d6f6b04dde8ef6a1dfc49bd3529e84b3385bc5f3bc6e5fbd1", func := "quoin/quoinlaw12.HuntRounds", spec := "huntRounds", inPlace := ["internal/bytealg.Count", "internal/bytealg.IndexByte", "internal/bytealg.Index", "internal/bytealg.IndexByteString"], unfollowed := true, recurses := true, named := ["unicode/utf8.first", "unicode/utf8.acceptRanges", "internal/bytealg.MaxLen", "bytes.ErrTooLarge"], apart := false, laid := [("unicode/utf8.acceptRanges", laid_unicode_utf8_acceptRanges), ("bytes.ErrTooLarge", laid_bytes_ErrTooLarge), ("unicode/utf8.first", laid_unicode_utf8_first)], narrowed := true }
def HuntRoundsUptoSaid : Prop := huntRoundsUptoRow.holds Tryd.pinned (OpenSpec.upto huntRoundsSpec)

/-- 'quoinlaw12.HuntKeeps', WHERE WHAT IT READS IS OF BULK AT MOST 1048576: true; the input reads as it did. -/
def huntKeepsUptoRow : OpenClaim := { program := "ytffpkldphkmjmaadoor", sum := "85c0bcbf4e20794d6f6b04dde8ef6a1dfc49bd3529e84b3385bc5f3bc6e5fbd1", func := "quoin/quoinlaw12.HuntKeeps", spec := "huntKeeps", inPlace := ["internal/bytealg.Count", "internal/bytealg.IndexByte", "internal/bytealg.Index", "internal/bytealg.IndexByteString"], unfollowed := true, recurses := true, named := ["unicode/utf8.first", "unicode/utf8.acceptRanges", "internal/bytealg.MaxLen", "bytes.ErrTooLarge"], apart := false, laid := [("unicode/utf8.acceptRanges", laid_unicode_utf8_acceptRanges), ("bytes.ErrTooLarge", laid_bytes_ErrTooLarge), ("unicode/utf8.first", laid_unicode_utf8_first)], narrowed := true }
def HuntKeepsUptoSaid : Prop := huntKeepsUptoRow.holds Tryd.pinned (OpenSpec.upto huntKeepsSpec)

/-- 'quoinlaw12.HuntWords', WHERE WHAT IT READS IS OF BULK AT MOST 1048576: true; the input reads as it did. -/
def huntWordsUptoRow : OpenClaim := { program := "ytffpkldphkmjmaadoor", sum := "85c0bcbf4e20794d6f6b04dde8ef6a1dfc49bd3529e84b3385bc5f3bc6e5fbd1", func := "quoin/quoinlaw12.HuntWords", spec := "huntWords", inPlace := ["internal/bytealg.Count", "internal/bytealg.IndexByte", "internal/bytealg.Index", "internal/bytealg.IndexByteString"], unfollowed := true, recurses := true, named := ["unicode/utf8.first", "unicode/utf8.acceptRanges", "internal/bytealg.MaxLen", "bytes.ErrTooLarge"], apart := false, laid := [("unicode/utf8.acceptRanges", laid_unicode_utf8_acceptRanges), ("bytes.ErrTooLarge", laid_bytes_ErrTooLarge), ("unicode/utf8.first", laid_unicode_utf8_first)], narrowed := true }
def HuntWordsUptoSaid : Prop := huntWordsUptoRow.holds Tryd.pinned (OpenSpec.upto huntWordsSpec)

/-- 'quoinlaw12.HuntRests', WHERE WHAT IT READS IS OF BULK AT MOST 1048576: true; the input reads as it did. -/
def huntRestsUptoRow : OpenClaim := { program := "ytffpkldphkmjmaadoor", sum := "85c0bcbf4e20794d6f6b04dde8ef6a1dfc49bd3529e84b3385bc5f3bc6e5fbd1", func := "quoin/quoinlaw12.HuntRests", spec := "huntRests", inPlace := ["internal/bytealg.Count", "internal/bytealg.IndexByte", "internal/bytealg.Index", "internal/bytealg.IndexByteString"], unfollowed := true, recurses := true, named := ["unicode/utf8.first", "unicode/utf8.acceptRanges", "internal/bytealg.MaxLen", "bytes.ErrTooLarge"], apart := false, laid := [("unicode/utf8.acceptRanges", laid_unicode_utf8_acceptRanges), ("bytes.ErrTooLarge", laid_bytes_ErrTooLarge), ("unicode/utf8.first", laid_unicode_utf8_first)], narrowed := true }
def HuntRestsUptoSaid : Prop := huntRestsUptoRow.holds Tryd.pinned (OpenSpec.upto huntRestsSpec)

end Rows
end Go.Proofs.YtffpkldphkmjmaaDoor
