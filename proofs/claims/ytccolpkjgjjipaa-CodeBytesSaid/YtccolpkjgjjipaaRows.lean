/-
  No cell of these rows narrows 'for every input' (looked for: loops, veiled, ifaces, maps, wideKeys, modest, calm, conditions, laid).
  DERIVED. THE GIVEN ROWS OF THIS SEAT. 6 by the template 'for every input the law returns true; each argument reads behind the call as it read before'; 0 by the template 'total and deterministic' (their statements: YtccolpkjgjjipaaTotals.lean).
  GIVEN WITH THE SEED: the statements are not yours to turn. If you find one false, say at which input.
  Laid BY PROGRAM, IN A SANDBOX (cutbox-rows.mjs): the forced cells as the released guide's own fill.sh prints them over the translation 59f820fe8621b7e9… (all of the seat's roots in one cut). By AI agents, Wed Nov 11 2026. No macro, syntax, notation, axiom, sorry.
-/
import Derived.Test.YtccolpkjgjjipaaChecked
import GoSem.Claim
import GoSem.ClaimJoined
import GoSem.ClaimMapViews
import Derived.JoinedTies
import Derived.KernelRfl
namespace Go.Proofs.Ytccolpkjgjjipaa
/- THE CELL 'sum', in the pinned program and in every row, IS THE sha256 OF THE DUMP (.gsa) THAT YtccolpkjgjjipaaProg.lean LOADS. Nothing in Lean hashes anything: it is a label: what it is worth is what the hold of that sum in a sandbox is worth. -/
noncomputable def Try.pinned : Pinned := { name := "ytccolpkjgjjipaa", sum := "59f820fe8621b7e9fcdf63b40877695ba9bffe5cd298f65bac2301a9d0e4d894", checked := Try.checked }
namespace Rows
def none {H : Type} : Left H := { results := [], args := [] }

/-- 'astrolabelaw16.CodeReads': WHATEVER THE INPUT: true; the input reads as it did. -/
def codeReadsSpec : ChangeSpec := { name := "codeReads", fn := fun _ => fun
  | [d] => { results := [.lit (.bool true)], args := [d] }
  | _ => none }
def codeReadsRow : OpenClaim := { program := "ytccolpkjgjjipaa", sum := "59f820fe8621b7e9fcdf63b40877695ba9bffe5cd298f65bac2301a9d0e4d894", func := "astrolabe/astrolabelaw16.CodeReads", spec := "codeReads", unfollowed := true, recurses := true, apart := false }
def CodeReadsSaid : Prop := codeReadsRow.holds Try.pinned (OpenSpec.ofChange codeReadsSpec)

/-- ITS FALSE NEIGHBOUR: 'it returns false'. Refute it at one input. -/
def codeReadsWrong : ChangeSpec := { name := "codeReads", fn := fun _ => fun
  | [d] => { results := [.lit (.bool false)], args := [d] }
  | _ => none }
def CodeReadsWrongFalsely : Prop := codeReadsRow.holds Try.pinned (OpenSpec.ofChange codeReadsWrong)

/-- 'astrolabelaw16.CodeTurned': WHATEVER THE INPUT: true; the input reads as it did. -/
def codeTurnedSpec : ChangeSpec := { name := "codeTurned", fn := fun _ => fun
  | [d1, d2, d3] => { results := [.lit (.bool true)], args := [d1, d2, d3] }
  | _ => none }
def codeTurnedRow : OpenClaim := { program := "ytccolpkjgjjipaa", sum := "59f820fe8621b7e9fcdf63b40877695ba9bffe5cd298f65bac2301a9d0e4d894", func := "astrolabe/astrolabelaw16.CodeTurned", spec := "codeTurned", unfollowed := true, recurses := true, apart := false }
def CodeTurnedSaid : Prop := codeTurnedRow.holds Try.pinned (OpenSpec.ofChange codeTurnedSpec)

/-- ITS FALSE NEIGHBOUR: 'it returns false'. Refute it at one input. -/
def codeTurnedWrong : ChangeSpec := { name := "codeTurned", fn := fun _ => fun
  | [d1, d2, d3] => { results := [.lit (.bool false)], args := [d1, d2, d3] }
  | _ => none }
def CodeTurnedWrongFalsely : Prop := codeTurnedRow.holds Try.pinned (OpenSpec.ofChange codeTurnedWrong)

/-- 'astrolabelaw17.VerifyCut': WHATEVER THE INPUT: true; the input reads as it did. -/
def verifyCutSpec : ChangeSpec := { name := "verifyCut", fn := fun _ => fun
  | [d1, d2] => { results := [.lit (.bool true)], args := [d1, d2] }
  | _ => none }
def verifyCutRow : OpenClaim := { program := "ytccolpkjgjjipaa", sum := "59f820fe8621b7e9fcdf63b40877695ba9bffe5cd298f65bac2301a9d0e4d894", func := "astrolabe/astrolabelaw17.VerifyCut", spec := "verifyCut", unfollowed := true, recurses := true, apart := false }
def VerifyCutSaid : Prop := verifyCutRow.holds Try.pinned (OpenSpec.ofChange verifyCutSpec)

/-- ITS FALSE NEIGHBOUR: 'it returns false'. Refute it at one input. -/
def verifyCutWrong : ChangeSpec := { name := "verifyCut", fn := fun _ => fun
  | [d1, d2] => { results := [.lit (.bool false)], args := [d1, d2] }
  | _ => none }
def VerifyCutWrongFalsely : Prop := verifyCutRow.holds Try.pinned (OpenSpec.ofChange verifyCutWrong)

/-- 'astrolabelaw17.VerifyRegisters': WHATEVER THE INPUT: true; the input reads as it did. -/
def verifyRegistersSpec : ChangeSpec := { name := "verifyRegisters", fn := fun _ => fun
  | [d] => { results := [.lit (.bool true)], args := [d] }
  | _ => none }
def verifyRegistersRow : OpenClaim := { program := "ytccolpkjgjjipaa", sum := "59f820fe8621b7e9fcdf63b40877695ba9bffe5cd298f65bac2301a9d0e4d894", func := "astrolabe/astrolabelaw17.VerifyRegisters", spec := "verifyRegisters", unfollowed := true, recurses := true, apart := false }
def VerifyRegistersSaid : Prop := verifyRegistersRow.holds Try.pinned (OpenSpec.ofChange verifyRegistersSpec)

/-- ITS FALSE NEIGHBOUR: 'it returns false'. Refute it at one input. -/
def verifyRegistersWrong : ChangeSpec := { name := "verifyRegisters", fn := fun _ => fun
  | [d] => { results := [.lit (.bool false)], args := [d] }
  | _ => none }
def VerifyRegistersWrongFalsely : Prop := verifyRegistersRow.holds Try.pinned (OpenSpec.ofChange verifyRegistersWrong)

/-- 'astrolabelaw17.VerifyNumbers': WHATEVER THE INPUT: true; the input reads as it did. -/
def verifyNumbersSpec : ChangeSpec := { name := "verifyNumbers", fn := fun _ => fun
  | [d] => { results := [.lit (.bool true)], args := [d] }
  | _ => none }
def verifyNumbersRow : OpenClaim := { program := "ytccolpkjgjjipaa", sum := "59f820fe8621b7e9fcdf63b40877695ba9bffe5cd298f65bac2301a9d0e4d894", func := "astrolabe/astrolabelaw17.VerifyNumbers", spec := "verifyNumbers", unfollowed := true, recurses := true, apart := false }
def VerifyNumbersSaid : Prop := verifyNumbersRow.holds Try.pinned (OpenSpec.ofChange verifyNumbersSpec)

/-- ITS FALSE NEIGHBOUR: 'it returns false'. Refute it at one input. -/
def verifyNumbersWrong : ChangeSpec := { name := "verifyNumbers", fn := fun _ => fun
  | [d] => { results := [.lit (.bool false)], args := [d] }
  | _ => none }
def VerifyNumbersWrongFalsely : Prop := verifyNumbersRow.holds Try.pinned (OpenSpec.ofChange verifyNumbersWrong)

/-- 'astrolabelaw16.CodeBytes': WHATEVER THE INPUT: true; the input reads as it did. -/
def codeBytesSpec : ChangeSpec := { name := "codeBytes", fn := fun _ => fun
  | [d1, d2] => { results := [.lit (.bool true)], args := [d1, d2] }
  | _ => none }
def codeBytesRow : OpenClaim := { program := "ytccolpkjgjjipaa", sum := "59f820fe8621b7e9fcdf63b40877695ba9bffe5cd298f65bac2301a9d0e4d894", func := "astrolabe/astrolabelaw16.CodeBytes", spec := "codeBytes", unfollowed := true, recurses := true, apart := false }
def CodeBytesSaid : Prop := codeBytesRow.holds Try.pinned (OpenSpec.ofChange codeBytesSpec)

/-- ITS FALSE NEIGHBOUR: 'it returns false'. Refute it at one input. -/
def codeBytesWrong : ChangeSpec := { name := "codeBytes", fn := fun _ => fun
  | [d1, d2] => { results := [.lit (.bool false)], args := [d1, d2] }
  | _ => none }
def CodeBytesWrongFalsely : Prop := codeBytesRow.holds Try.pinned (OpenSpec.ofChange codeBytesWrong)

/- THE SECOND FORM. 'bulk': how many values and letters a reading holds, each counted each time it is reached (what is shared counts as often as it is met; a slice's spare places count too). A statement '..UptoSaid' is the law's where the arguments, and the package variables that the reading takes, are together of bulk at most 1048576: NARROWER than '..Said'. Prove '..Said' where nothing that the law and all that it calls make is longer than what came in: it says more and counts as full. Else prove '..UptoSaid'. A law counts once. -/
mutual
def uptoBulk {H : Type} : DataW H → Nat
  | .lit (.string bytes) => bytes.length + 1
  | .lit _ => 1
  | .nil => 1
  | .ptr d => uptoBulk d + 1
  | .slice elems spare => uptoBulkAll elems + uptoBulkAll spare + 1
  | .agg parts => uptoBulkAll parts + 1
  | .iface _ d => uptoBulk d + 1
  | .map entries => uptoBulkEntries entries + 1
  | .held _ => 1
def uptoBulkAll {H : Type} : List (DataW H) → Nat
  | [] => 0
  | d :: r => uptoBulk d + uptoBulkAll r
def uptoBulkEntries {H : Type} : List (Lit × DataW H) → Nat
  | [] => 0
  | x :: r => uptoBulkEntry x + uptoBulkEntries r
def uptoBulkEntry {H : Type} : Lit × DataW H → Nat
  | (.string bytes, d) => bytes.length + uptoBulk d + 1
  | (_, d) => uptoBulk d + 1
 end
def uptoSmall : (H : Type) → List (DataW H) → Bool := fun _ ds => decide (uptoBulkAll ds ≤ 1048576)
def OpenSpec.upto (s : _root_.Go.ChangeSpec) : _root_.Go.OpenSpec := { _root_.Go.OpenSpec.ofChange s with cond := some uptoSmall }

/-- 'astrolabelaw16.CodeReads', WHERE WHAT IT READS IS OF BULK AT MOST 1048576: true; the input reads as it did. -/
def codeReadsUptoRow : OpenClaim := { program := "ytccolpkjgjjipaa", sum := "59f820fe8621b7e9fcdf63b40877695ba9bffe5cd298f65bac2301a9d0e4d894", func := "astrolabe/astrolabelaw16.CodeReads", spec := "codeReads", unfollowed := true, recurses := true, apart := false, narrowed := true }
def CodeReadsUptoSaid : Prop := codeReadsUptoRow.holds Try.pinned (OpenSpec.upto codeReadsSpec)

/-- 'astrolabelaw16.CodeTurned', WHERE WHAT IT READS IS OF BULK AT MOST 1048576: true; the input reads as it did. -/
def codeTurnedUptoRow : OpenClaim := { program := "ytccolpkjgjjipaa", sum := "59f820fe8621b7e9fcdf63b40877695ba9bffe5cd298f65bac2301a9d0e4d894", func := "astrolabe/astrolabelaw16.CodeTurned", spec := "codeTurned", unfollowed := true, recurses := true, apart := false, narrowed := true }
def CodeTurnedUptoSaid : Prop := codeTurnedUptoRow.holds Try.pinned (OpenSpec.upto codeTurnedSpec)

/-- 'astrolabelaw17.VerifyCut', WHERE WHAT IT READS IS OF BULK AT MOST 1048576: true; the input reads as it did. -/
def verifyCutUptoRow : OpenClaim := { program := "ytccolpkjgjjipaa", sum := "59f820fe8621b7e9fcdf63b40877695ba9bffe5cd298f65bac2301a9d0e4d894", func := "astrolabe/astrolabelaw17.VerifyCut", spec := "verifyCut", unfollowed := true, recurses := true, apart := false, narrowed := true }
def VerifyCutUptoSaid : Prop := verifyCutUptoRow.holds Try.pinned (OpenSpec.upto verifyCutSpec)

/-- 'astrolabelaw17.VerifyRegisters', WHERE WHAT IT READS IS OF BULK AT MOST 1048576: true; the input reads as it did. -/
def verifyRegistersUptoRow : OpenClaim := { program := "ytccolpkjgjjipaa", sum := "59f820fe8621b7e9fcdf63b40877695ba9bffe5cd298f65bac2301a9d0e4d894", func := "astrolabe/astrolabelaw17.VerifyRegisters", spec := "verifyRegisters", unfollowed := true, recurses := true, apart := false, narrowed := true }
def VerifyRegistersUptoSaid : Prop := verifyRegistersUptoRow.holds Try.pinned (OpenSpec.upto verifyRegistersSpec)

/-- 'astrolabelaw17.VerifyNumbers', WHERE WHAT IT READS IS OF BULK AT MOST 1048576: true; the input reads as it did. -/
def verifyNumbersUptoRow : OpenClaim := { program := "ytccolpkjgjjipaa", sum := "59f820fe8621b7e9fcdf63b40877695ba9bffe5cd298f65bac2301a9d0e4d894", func := "astrolabe/astrolabelaw17.VerifyNumbers", spec := "verifyNumbers", unfollowed := true, recurses := true, apart := false, narrowed := true }
def VerifyNumbersUptoSaid : Prop := verifyNumbersUptoRow.holds Try.pinned (OpenSpec.upto verifyNumbersSpec)

/-- 'astrolabelaw16.CodeBytes', WHERE WHAT IT READS IS OF BULK AT MOST 1048576: true; the input reads as it did. -/
def codeBytesUptoRow : OpenClaim := { program := "ytccolpkjgjjipaa", sum := "59f820fe8621b7e9fcdf63b40877695ba9bffe5cd298f65bac2301a9d0e4d894", func := "astrolabe/astrolabelaw16.CodeBytes", spec := "codeBytes", unfollowed := true, recurses := true, apart := false, narrowed := true }
def CodeBytesUptoSaid : Prop := codeBytesUptoRow.holds Try.pinned (OpenSpec.upto codeBytesSpec)

end Rows
end Go.Proofs.Ytccolpkjgjjipaa
