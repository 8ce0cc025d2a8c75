/-
  No cell of these rows narrows 'for every input' (looked for: loops, veiled, ifaces, maps, wideKeys, modest, calm, conditions, laid).
  DERIVED. THE GIVEN ROWS OF THIS SEAT. 10 by the template 'for every input the law returns true; each argument reads behind the call as it read before'; 0 by the template 'total and deterministic' (their statements: YtcplmaeicmmkgaaTotals.lean).
  GIVEN WITH THE SEED: the statements are not yours to turn. If you find one false, say at which input.
  Laid BY PROGRAM, IN A SANDBOX (cutbox-rows.mjs): the forced cells as the released guide's own fill.sh prints them over the translation 7634031b5cacac4a… (all of the seat's roots in one cut). By AI agents, Wed Nov 11 2026. No macro, syntax, notation, axiom, sorry.
-/
import Derived.Test.YtcplmaeicmmkgaaChecked
import GoSem.Claim
import GoSem.ClaimJoined
import GoSem.ClaimMapViews
import Derived.JoinedTies
import Derived.KernelRfl
namespace Go.Proofs.Ytcplmaeicmmkgaa
/- THE CELL 'sum', in the pinned program and in every row, IS THE sha256 OF THE DUMP (.gsa) THAT YtcplmaeicmmkgaaProg.lean LOADS. Nothing in Lean hashes anything: it is a label: what it is worth is what the hold of that sum in a sandbox is worth. -/
noncomputable def Try.pinned : Pinned := { name := "ytcplmaeicmmkgaa", sum := "7634031b5cacac4a6f6ce972aca82a41dff032f15aaba5f2d578874d3138ba54", checked := Try.checked }
namespace Rows
def none {H : Type} : Left H := { results := [], args := [] }

/-- 'rutterlaw11.SessionPlays': WHATEVER THE INPUT: true; the input reads as it did. -/
def sessionPlaysSpec : ChangeSpec := { name := "sessionPlays", fn := fun _ => fun
  | [d1, d2] => { results := [.lit (.bool true)], args := [d1, d2] }
  | _ => none }
def sessionPlaysRow : OpenClaim := { program := "ytcplmaeicmmkgaa", sum := "7634031b5cacac4a6f6ce972aca82a41dff032f15aaba5f2d578874d3138ba54", func := "rutter/rutterlaw11.SessionPlays", spec := "sessionPlays", unfollowed := true, recurses := true, apart := false }
def SessionPlaysSaid : Prop := sessionPlaysRow.holds Try.pinned (OpenSpec.ofChange sessionPlaysSpec)

/-- ITS FALSE NEIGHBOUR: 'it returns false'. Refute it at one input. -/
def sessionPlaysWrong : ChangeSpec := { name := "sessionPlays", fn := fun _ => fun
  | [d1, d2] => { results := [.lit (.bool false)], args := [d1, d2] }
  | _ => none }
def SessionPlaysWrongFalsely : Prop := sessionPlaysRow.holds Try.pinned (OpenSpec.ofChange sessionPlaysWrong)

/-- 'rutterlaw11.SessionOrder': WHATEVER THE INPUT: true; the input reads as it did. -/
def sessionOrderSpec : ChangeSpec := { name := "sessionOrder", fn := fun _ => fun
  | [d] => { results := [.lit (.bool true)], args := [d] }
  | _ => none }
def sessionOrderRow : OpenClaim := { program := "ytcplmaeicmmkgaa", sum := "7634031b5cacac4a6f6ce972aca82a41dff032f15aaba5f2d578874d3138ba54", func := "rutter/rutterlaw11.SessionOrder", spec := "sessionOrder", unfollowed := true, recurses := true, apart := false }
def SessionOrderSaid : Prop := sessionOrderRow.holds Try.pinned (OpenSpec.ofChange sessionOrderSpec)

/-- ITS FALSE NEIGHBOUR: 'it returns false'. Refute it at one input. -/
def sessionOrderWrong : ChangeSpec := { name := "sessionOrder", fn := fun _ => fun
  | [d] => { results := [.lit (.bool false)], args := [d] }
  | _ => none }
def SessionOrderWrongFalsely : Prop := sessionOrderRow.holds Try.pinned (OpenSpec.ofChange sessionOrderWrong)

/-- 'rutterlaw12.TrackPlays': WHATEVER THE INPUT: true; the input reads as it did. -/
def trackPlaysSpec : ChangeSpec := { name := "trackPlays", fn := fun _ => fun
  | [d1, d2, d3] => { results := [.lit (.bool true)], args := [d1, d2, d3] }
  | _ => none }
def trackPlaysRow : OpenClaim := { program := "ytcplmaeicmmkgaa", sum := "7634031b5cacac4a6f6ce972aca82a41dff032f15aaba5f2d578874d3138ba54", func := "rutter/rutterlaw12.TrackPlays", spec := "trackPlays", unfollowed := true, recurses := true, apart := false }
def TrackPlaysSaid : Prop := trackPlaysRow.holds Try.pinned (OpenSpec.ofChange trackPlaysSpec)

/-- ITS FALSE NEIGHBOUR: 'it returns false'. Refute it at one input. -/
def trackPlaysWrong : ChangeSpec := { name := "trackPlays", fn := fun _ => fun
  | [d1, d2, d3] => { results := [.lit (.bool false)], args := [d1, d2, d3] }
  | _ => none }
def TrackPlaysWrongFalsely : Prop := trackPlaysRow.holds Try.pinned (OpenSpec.ofChange trackPlaysWrong)

/-- 'rutterlaw12.TrackBoth': WHATEVER THE INPUT: true; the input reads as it did. -/
def trackBothSpec : ChangeSpec := { name := "trackBoth", fn := fun _ => fun
  | [d1, d2, d3] => { results := [.lit (.bool true)], args := [d1, d2, d3] }
  | _ => none }
def trackBothRow : OpenClaim := { program := "ytcplmaeicmmkgaa", sum := "7634031b5cacac4a6f6ce972aca82a41dff032f15aaba5f2d578874d3138ba54", func := "rutter/rutterlaw12.TrackBoth", spec := "trackBoth", unfollowed := true, recurses := true, apart := false }
def TrackBothSaid : Prop := trackBothRow.holds Try.pinned (OpenSpec.ofChange trackBothSpec)

/-- ITS FALSE NEIGHBOUR: 'it returns false'. Refute it at one input. -/
def trackBothWrong : ChangeSpec := { name := "trackBoth", fn := fun _ => fun
  | [d1, d2, d3] => { results := [.lit (.bool false)], args := [d1, d2, d3] }
  | _ => none }
def TrackBothWrongFalsely : Prop := trackBothRow.holds Try.pinned (OpenSpec.ofChange trackBothWrong)

/-- 'rutterlaw06.ControlTells': WHATEVER THE INPUT: true; the input reads as it did. -/
def controlTellsSpec : ChangeSpec := { name := "controlTells", fn := fun _ => fun
  | [d1, d2, d3] => { results := [.lit (.bool true)], args := [d1, d2, d3] }
  | _ => none }
def controlTellsRow : OpenClaim := { program := "ytcplmaeicmmkgaa", sum := "7634031b5cacac4a6f6ce972aca82a41dff032f15aaba5f2d578874d3138ba54", func := "rutter/rutterlaw06.ControlTells", spec := "controlTells", unfollowed := true, recurses := true, apart := false }
def ControlTellsSaid : Prop := controlTellsRow.holds Try.pinned (OpenSpec.ofChange controlTellsSpec)

/-- ITS FALSE NEIGHBOUR: 'it returns false'. Refute it at one input. -/
def controlTellsWrong : ChangeSpec := { name := "controlTells", fn := fun _ => fun
  | [d1, d2, d3] => { results := [.lit (.bool false)], args := [d1, d2, d3] }
  | _ => none }
def ControlTellsWrongFalsely : Prop := controlTellsRow.holds Try.pinned (OpenSpec.ofChange controlTellsWrong)

/-- 'rutterlaw06.ControlBytes': WHATEVER THE INPUT: true; the input reads as it did. -/
def controlBytesSpec : ChangeSpec := { name := "controlBytes", fn := fun _ => fun
  | [d] => { results := [.lit (.bool true)], args := [d] }
  | _ => none }
def controlBytesRow : OpenClaim := { program := "ytcplmaeicmmkgaa", sum := "7634031b5cacac4a6f6ce972aca82a41dff032f15aaba5f2d578874d3138ba54", func := "rutter/rutterlaw06.ControlBytes", spec := "controlBytes", unfollowed := true, recurses := true, apart := false }
def ControlBytesSaid : Prop := controlBytesRow.holds Try.pinned (OpenSpec.ofChange controlBytesSpec)

/-- ITS FALSE NEIGHBOUR: 'it returns false'. Refute it at one input. -/
def controlBytesWrong : ChangeSpec := { name := "controlBytes", fn := fun _ => fun
  | [d] => { results := [.lit (.bool false)], args := [d] }
  | _ => none }
def ControlBytesWrongFalsely : Prop := controlBytesRow.holds Try.pinned (OpenSpec.ofChange controlBytesWrong)

/-- 'rutterlaw11.SessionLetters': WHATEVER THE INPUT: true; the input reads as it did. -/
def sessionLettersSpec : ChangeSpec := { name := "sessionLetters", fn := fun _ => fun
  | [d1, d2] => { results := [.lit (.bool true)], args := [d1, d2] }
  | _ => none }
def sessionLettersRow : OpenClaim := { program := "ytcplmaeicmmkgaa", sum := "7634031b5cacac4a6f6ce972aca82a41dff032f15aaba5f2d578874d3138ba54", func := "rutter/rutterlaw11.SessionLetters", spec := "sessionLetters", unfollowed := true, recurses := true, apart := false }
def SessionLettersSaid : Prop := sessionLettersRow.holds Try.pinned (OpenSpec.ofChange sessionLettersSpec)

/-- ITS FALSE NEIGHBOUR: 'it returns false'. Refute it at one input. -/
def sessionLettersWrong : ChangeSpec := { name := "sessionLetters", fn := fun _ => fun
  | [d1, d2] => { results := [.lit (.bool false)], args := [d1, d2] }
  | _ => none }
def SessionLettersWrongFalsely : Prop := sessionLettersRow.holds Try.pinned (OpenSpec.ofChange sessionLettersWrong)

/-- 'rutterlaw08.JournalPlays': WHATEVER THE INPUT: true; the input reads as it did. -/
def journalPlaysSpec : ChangeSpec := { name := "journalPlays", fn := fun _ => fun
  | [d1, d2] => { results := [.lit (.bool true)], args := [d1, d2] }
  | _ => none }
def journalPlaysRow : OpenClaim := { program := "ytcplmaeicmmkgaa", sum := "7634031b5cacac4a6f6ce972aca82a41dff032f15aaba5f2d578874d3138ba54", func := "rutter/rutterlaw08.JournalPlays", spec := "journalPlays", apart := false }
def JournalPlaysSaid : Prop := journalPlaysRow.holds Try.pinned (OpenSpec.ofChange journalPlaysSpec)

/-- ITS FALSE NEIGHBOUR: 'it returns false'. Refute it at one input. -/
def journalPlaysWrong : ChangeSpec := { name := "journalPlays", fn := fun _ => fun
  | [d1, d2] => { results := [.lit (.bool false)], args := [d1, d2] }
  | _ => none }
def JournalPlaysWrongFalsely : Prop := journalPlaysRow.holds Try.pinned (OpenSpec.ofChange journalPlaysWrong)

/-- 'rutterlaw08.JournalScans': WHATEVER THE INPUT: true; the input reads as it did. -/
def journalScansSpec : ChangeSpec := { name := "journalScans", fn := fun _ => fun
  | [d1, d2] => { results := [.lit (.bool true)], args := [d1, d2] }
  | _ => none }
def journalScansRow : OpenClaim := { program := "ytcplmaeicmmkgaa", sum := "7634031b5cacac4a6f6ce972aca82a41dff032f15aaba5f2d578874d3138ba54", func := "rutter/rutterlaw08.JournalScans", spec := "journalScans", apart := false }
def JournalScansSaid : Prop := journalScansRow.holds Try.pinned (OpenSpec.ofChange journalScansSpec)

/-- ITS FALSE NEIGHBOUR: 'it returns false'. Refute it at one input. -/
def journalScansWrong : ChangeSpec := { name := "journalScans", fn := fun _ => fun
  | [d1, d2] => { results := [.lit (.bool false)], args := [d1, d2] }
  | _ => none }
def JournalScansWrongFalsely : Prop := journalScansRow.holds Try.pinned (OpenSpec.ofChange journalScansWrong)

/-- 'rutterlaw08.JournalKeeps': WHATEVER THE INPUT: true; the input reads as it did. -/
def journalKeepsSpec : ChangeSpec := { name := "journalKeeps", fn := fun _ => fun
  | [d1, d2, d3] => { results := [.lit (.bool true)], args := [d1, d2, d3] }
  | _ => none }
def journalKeepsRow : OpenClaim := { program := "ytcplmaeicmmkgaa", sum := "7634031b5cacac4a6f6ce972aca82a41dff032f15aaba5f2d578874d3138ba54", func := "rutter/rutterlaw08.JournalKeeps", spec := "journalKeeps", apart := false }
def JournalKeepsSaid : Prop := journalKeepsRow.holds Try.pinned (OpenSpec.ofChange journalKeepsSpec)

/-- ITS FALSE NEIGHBOUR: 'it returns false'. Refute it at one input. -/
def journalKeepsWrong : ChangeSpec := { name := "journalKeeps", fn := fun _ => fun
  | [d1, d2, d3] => { results := [.lit (.bool false)], args := [d1, d2, d3] }
  | _ => none }
def JournalKeepsWrongFalsely : Prop := journalKeepsRow.holds Try.pinned (OpenSpec.ofChange journalKeepsWrong)

/- THE SECOND FORM. 'bulk': how many values and letters a reading holds, each counted each time it is reached (what is shared counts as often as it is met; a slice's spare places count too). A statement '..UptoSaid' is the law's where the arguments, and the package variables that the reading takes, are together of bulk at most 1048576: NARROWER than '..Said'. Prove '..Said' where nothing that the law and all that it calls make is longer than what came in: it says more and counts as full. Else prove '..UptoSaid'. A law counts once. -/
mutual
def uptoBulk {H : Type} : DataW H → Nat
  | .lit (.string bytes) => bytes.length + 1
  | .lit _ => 1
  | .nil => 1
  | .ptr d => uptoBulk d + 1
  | .slice elems spare => uptoBulkAll elems + uptoBulkAll spare + 1
  | .agg parts => uptoBulkAll parts + 1
  | .iface _ d => uptoBulk d + 1
  | .map entries => uptoBulkEntries entries + 1
  | .held _ => 1
def uptoBulkAll {H : Type} : List (DataW H) → Nat
  | [] => 0
  | d :: r => uptoBulk d + uptoBulkAll r
def uptoBulkEntries {H : Type} : List (Lit × DataW H) → Nat
  | [] => 0
  | x :: r => uptoBulkEntry x + uptoBulkEntries r
def uptoBulkEntry {H : Type} : Lit × DataW H → Nat
  | (.string bytes, d) => bytes.length + uptoBulk d + 1
  | (_, d) => uptoBulk d + 1
 end
def uptoSmall : (H : Type) → List (DataW H) → Bool := fun _ ds => decide (uptoBulkAll ds ≤ 1048576)
def OpenSpec.upto (s : _root_.Go.ChangeSpec) : _root_.Go.OpenSpec := { _root_.Go.OpenSpec.ofChange s with cond := some uptoSmall }

/-- 'rutterlaw11.SessionPlays', WHERE WHAT IT READS IS OF BULK AT MOST 1048576: true; the input reads as it did. -/
def sessionPlaysUptoRow : OpenClaim := { program := "ytcplmaeicmmkgaa", sum := "7634031b5cacac4a6f6ce972aca82a41dff032f15aaba5f2d578874d3138ba54", func := "rutter/rutterlaw11.SessionPlays", spec := "sessionPlays", unfollowed := true, recurses := true, apart := false, narrowed := true }
def SessionPlaysUptoSaid : Prop := sessionPlaysUptoRow.holds Try.pinned (OpenSpec.upto sessionPlaysSpec)

/-- 'rutterlaw11.SessionOrder', WHERE WHAT IT READS IS OF BULK AT MOST 1048576: true; the input reads as it did. -/
def sessionOrderUptoRow : OpenClaim := { program := "ytcplmaeicmmkgaa", sum := "7634031b5cacac4a6f6ce972aca82a41dff032f15aaba5f2d578874d3138ba54", func := "rutter/rutterlaw11.SessionOrder", spec := "sessionOrder", unfollowed := true, recurses := true, apart := false, narrowed := true }
def SessionOrderUptoSaid : Prop := sessionOrderUptoRow.holds Try.pinned (OpenSpec.upto sessionOrderSpec)

/-- 'rutterlaw12.TrackPlays', WHERE WHAT IT READS IS OF BULK AT MOST 1048576: true; the input reads as it did. -/
def trackPlaysUptoRow : OpenClaim := { program := "ytcplmaeicmmkgaa", sum := "7634031b5cacac4a6f6ce972aca82a41dff032f15aaba5f2d578874d3138ba54", func := "rutter/rutterlaw12.TrackPlays", spec := "trackPlays", unfollowed := true, recurses := true, apart := false, narrowed := true }
def TrackPlaysUptoSaid : Prop := trackPlaysUptoRow.holds Try.pinned (OpenSpec.upto trackPlaysSpec)

/-- 'rutterlaw12.TrackBoth', WHERE WHAT IT READS IS OF BULK AT MOST 1048576: true; the input reads as it did. -/
def trackBothUptoRow : OpenClaim := { program := "ytcplmaeicmmkgaa", sum := "7634031b5cacac4a6f6ce972aca82a41dff032f15aaba5f2d578874d3138ba54", func := "rutter/rutterlaw12.TrackBoth", spec := "trackBoth", unfollowed := true, recurses := true, apart := false, narrowed := true }
def TrackBothUptoSaid : Prop := trackBothUptoRow.holds Try.pinned (OpenSpec.upto trackBothSpec)

/-- 'rutterlaw06.ControlTells', WHERE WHAT IT READS IS OF BULK AT MOST 1048576: true; the input reads as it did. -/
def controlTellsUptoRow : OpenClaim := { program := "ytcplmaeicmmkgaa", sum := "7634031b5cacac4a6f6ce972aca82a41dff032f15aaba5f2d578874d3138ba54", func := "rutter/rutterlaw06.ControlTells", spec := "controlTells", unfollowed := true, recurses := true, apart := false, narrowed := true }
def ControlTellsUptoSaid : Prop := controlTellsUptoRow.holds Try.pinned (OpenSpec.upto controlTellsSpec)

/-- 'rutterlaw06.ControlBytes', WHERE WHAT IT READS IS OF BULK AT MOST 1048576: true; the input reads as it did. -/
def controlBytesUptoRow : OpenClaim := { program := "ytcplmaeicmmkgaa", sum := "7634031b5cacac4a6f6ce972aca82a41dff032f15aaba5f2d578874d3138ba54", func := "rutter/rutterlaw06.ControlBytes", spec := "controlBytes", unfollowed := true, recurses := true, apart := false, narrowed := true }
def ControlBytesUptoSaid : Prop := controlBytesUptoRow.holds Try.pinned (OpenSpec.upto controlBytesSpec)

/-- 'rutterlaw11.SessionLetters', WHERE WHAT IT READS IS OF BULK AT MOST 1048576: true; the input reads as it did. -/
def sessionLettersUptoRow : OpenClaim := { program := "ytcplmaeicmmkgaa", sum := "7634031b5cacac4a6f6ce972aca82a41dff032f15aaba5f2d578874d3138ba54", func := "rutter/rutterlaw11.SessionLetters", spec := "sessionLetters", unfollowed := true, recurses := true, apart := false, narrowed := true }
def SessionLettersUptoSaid : Prop := sessionLettersUptoRow.holds Try.pinned (OpenSpec.upto sessionLettersSpec)

/-- 'rutterlaw08.JournalPlays', WHERE WHAT IT READS IS OF BULK AT MOST 1048576: true; the input reads as it did. -/
def journalPlaysUptoRow : OpenClaim := { program := "ytcplmaeicmmkgaa", sum := "7634031b5cacac4a6f6ce972aca82a41dff032f15aaba5f2d578874d3138ba54", func := "rutter/rutterlaw08.JournalPlays", spec := "journalPlays", apart := false, narrowed := true }
def JournalPlaysUptoSaid : Prop := journalPlaysUptoRow.holds Try.pinned (OpenSpec.upto journalPlaysSpec)

/-- 'rutterlaw08.JournalScans', WHERE WHAT IT READS IS OF BULK AT MOST 1048576: true; the input reads as it did. -/
def journalScansUptoRow : OpenClaim := { program := "ytcplmaeicmmkgaa", sum := "7634031b5cacac4a6f6ce972aca82a41dff032f15aaba5f2d578874d3138ba54", func := "rutter/rutterlaw08.JournalScans", spec := "journalScans", apart := false, narrowed := true }
def JournalScansUptoSaid : Prop := journalScansUptoRow.holds Try.pinned (OpenSpec.upto journalScansSpec)

/-- 'rutterlaw08.JournalKeeps', WHERE WHAT IT READS IS OF BULK AT MOST 1048576: true; the input reads as it did. -/
def journalKeepsUptoRow : OpenClaim := { program := "ytcplmaeicmmkgaa", sum := "7634031b5cacac4a6f6ce972aca82a41dff032f15aaba5f2d578874d3138ba54", func := "rutter/rutterlaw08.JournalKeeps", spec := "journalKeeps", apart := false, narrowed := true }
def JournalKeepsUptoSaid : Prop := journalKeepsUptoRow.holds Try.pinned (OpenSpec.upto journalKeepsSpec)

end Rows
end Go.Proofs.Ytcplmaeicmmkgaa
