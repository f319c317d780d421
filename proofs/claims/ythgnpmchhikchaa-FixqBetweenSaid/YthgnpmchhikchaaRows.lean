/-
  No cell of these rows narrows 'for every input' (looked for: loops, veiled, ifaces, maps, wideKeys, modest, calm, conditions, laid).
  DERIVED. THE GIVEN ROWS OF THIS SEAT. 7 by the template 'for every input the law returns true; each argument reads behind the call as it read before'; 0 by the template 'total and deterministic' (their statements: YthgnpmchhikchaaTotals.lean).
  GIVEN WITH THE SEED: the statements are not yours to turn. If you find one false, say at which input.
  Laid BY PROGRAM, IN A SANDBOX (cutbox-rows.mjs): the forced cells as the released guide's own fill.sh prints them over the translation 63dbddb24e551a7e… (all of the seat's roots in one cut). By AI agents, Wed Nov 11 2026. No macro, syntax, notation, axiom, sorry.
-/
import Derived.Test.YthgnpmchhikchaaChecked
import GoSem.Claim
import GoSem.ClaimJoined
import GoSem.ClaimMapViews
import Derived.JoinedTies
import Derived.KernelRfl
namespace Go.Proofs.Ythgnpmchhikchaa
/- THE CELL 'sum', in the pinned program and in every row, IS THE sha256 OF THE DUMP (.gsa) THAT YthgnpmchhikchaaProg.lean LOADS. Nothing in Lean hashes anything: it is a label: what it is worth is what the hold of that sum in a sandbox is worth. -/
noncomputable def Try.pinned : Pinned := { name := "ythgnpmchhikchaa", sum := "63dbddb24e551a7e53d668618eee386037ca3599a5ee0205211e9e80187a18b2", checked := Try.checked }
namespace Rows
def none {H : Type} : Left H := { results := [], args := [] }

/-- 'astrolabelaw01.FixqRoot': WHATEVER THE INPUT: true; the input reads as it did. -/
def fixqRootSpec : ChangeSpec := { name := "fixqRoot", fn := fun _ => fun
  | [d] => { results := [.lit (.bool true)], args := [d] }
  | _ => none }
def fixqRootRow : OpenClaim := { program := "ythgnpmchhikchaa", sum := "63dbddb24e551a7e53d668618eee386037ca3599a5ee0205211e9e80187a18b2", func := "astrolabe/astrolabelaw01.FixqRoot", spec := "fixqRoot", unfollowed := true, recurses := true, named := ["math/bits.divideError", "math/bits.overflowError"], apart := false }
def FixqRootSaid : Prop := fixqRootRow.holds Try.pinned (OpenSpec.ofChange fixqRootSpec)

/-- ITS FALSE NEIGHBOUR: 'it returns false'. Refute it at one input. -/
def fixqRootWrong : ChangeSpec := { name := "fixqRoot", fn := fun _ => fun
  | [d] => { results := [.lit (.bool false)], args := [d] }
  | _ => none }
def FixqRootWrongFalsely : Prop := fixqRootRow.holds Try.pinned (OpenSpec.ofChange fixqRootWrong)

/-- 'astrolabelaw01.FixqMono': WHATEVER THE INPUT: true; the input reads as it did. -/
def fixqMonoSpec : ChangeSpec := { name := "fixqMono", fn := fun _ => fun
  | [d1, d2, d3] => { results := [.lit (.bool true)], args := [d1, d2, d3] }
  | _ => none }
def fixqMonoRow : OpenClaim := { program := "ythgnpmchhikchaa", sum := "63dbddb24e551a7e53d668618eee386037ca3599a5ee0205211e9e80187a18b2", func := "astrolabe/astrolabelaw01.FixqMono", spec := "fixqMono", unfollowed := true, recurses := true, named := ["math/bits.divideError", "math/bits.overflowError"], apart := false }
def FixqMonoSaid : Prop := fixqMonoRow.holds Try.pinned (OpenSpec.ofChange fixqMonoSpec)

/-- ITS FALSE NEIGHBOUR: 'it returns false'. Refute it at one input. -/
def fixqMonoWrong : ChangeSpec := { name := "fixqMono", fn := fun _ => fun
  | [d1, d2, d3] => { results := [.lit (.bool false)], args := [d1, d2, d3] }
  | _ => none }
def FixqMonoWrongFalsely : Prop := fixqMonoRow.holds Try.pinned (OpenSpec.ofChange fixqMonoWrong)

/-- 'astrolabelaw01.FixqLaws': WHATEVER THE INPUT: true; the input reads as it did. -/
def fixqLawsSpec : ChangeSpec := { name := "fixqLaws", fn := fun _ => fun
  | [d1, d2] => { results := [.lit (.bool true)], args := [d1, d2] }
  | _ => none }
def fixqLawsRow : OpenClaim := { program := "ythgnpmchhikchaa", sum := "63dbddb24e551a7e53d668618eee386037ca3599a5ee0205211e9e80187a18b2", func := "astrolabe/astrolabelaw01.FixqLaws", spec := "fixqLaws", unfollowed := true, recurses := true, named := ["math/bits.divideError", "math/bits.overflowError"], apart := false }
def FixqLawsSaid : Prop := fixqLawsRow.holds Try.pinned (OpenSpec.ofChange fixqLawsSpec)

/-- ITS FALSE NEIGHBOUR: 'it returns false'. Refute it at one input. -/
def fixqLawsWrong : ChangeSpec := { name := "fixqLaws", fn := fun _ => fun
  | [d1, d2] => { results := [.lit (.bool false)], args := [d1, d2] }
  | _ => none }
def FixqLawsWrongFalsely : Prop := fixqLawsRow.holds Try.pinned (OpenSpec.ofChange fixqLawsWrong)

/-- 'astrolabelaw01.FixqSums': WHATEVER THE INPUT: true; the input reads as it did. -/
def fixqSumsSpec : ChangeSpec := { name := "fixqSums", fn := fun _ => fun
  | [d1, d2] => { results := [.lit (.bool true)], args := [d1, d2] }
  | _ => none }
def fixqSumsRow : OpenClaim := { program := "ythgnpmchhikchaa", sum := "63dbddb24e551a7e53d668618eee386037ca3599a5ee0205211e9e80187a18b2", func := "astrolabe/astrolabelaw01.FixqSums", spec := "fixqSums", unfollowed := true, recurses := true, named := ["math/bits.divideError", "math/bits.overflowError"], apart := false }
def FixqSumsSaid : Prop := fixqSumsRow.holds Try.pinned (OpenSpec.ofChange fixqSumsSpec)

/-- ITS FALSE NEIGHBOUR: 'it returns false'. Refute it at one input. -/
def fixqSumsWrong : ChangeSpec := { name := "fixqSums", fn := fun _ => fun
  | [d1, d2] => { results := [.lit (.bool false)], args := [d1, d2] }
  | _ => none }
def FixqSumsWrongFalsely : Prop := fixqSumsRow.holds Try.pinned (OpenSpec.ofChange fixqSumsWrong)

/-- 'astrolabelaw01.FixqRoots': WHATEVER THE INPUT: true; the input reads as it did. -/
def fixqRootsSpec : ChangeSpec := { name := "fixqRoots", fn := fun _ => fun
  | [d] => { results := [.lit (.bool true)], args := [d] }
  | _ => none }
def fixqRootsRow : OpenClaim := { program := "ythgnpmchhikchaa", sum := "63dbddb24e551a7e53d668618eee386037ca3599a5ee0205211e9e80187a18b2", func := "astrolabe/astrolabelaw01.FixqRoots", spec := "fixqRoots", unfollowed := true, recurses := true, named := ["math/bits.divideError", "math/bits.overflowError"], apart := false }
def FixqRootsSaid : Prop := fixqRootsRow.holds Try.pinned (OpenSpec.ofChange fixqRootsSpec)

/-- ITS FALSE NEIGHBOUR: 'it returns false'. Refute it at one input. -/
def fixqRootsWrong : ChangeSpec := { name := "fixqRoots", fn := fun _ => fun
  | [d] => { results := [.lit (.bool false)], args := [d] }
  | _ => none }
def FixqRootsWrongFalsely : Prop := fixqRootsRow.holds Try.pinned (OpenSpec.ofChange fixqRootsWrong)

/-- 'astrolabelaw01.FixqLerps': WHATEVER THE INPUT: true; the input reads as it did. -/
def fixqLerpsSpec : ChangeSpec := { name := "fixqLerps", fn := fun _ => fun
  | [d1, d2, d3, d4] => { results := [.lit (.bool true)], args := [d1, d2, d3, d4] }
  | _ => none }
def fixqLerpsRow : OpenClaim := { program := "ythgnpmchhikchaa", sum := "63dbddb24e551a7e53d668618eee386037ca3599a5ee0205211e9e80187a18b2", func := "astrolabe/astrolabelaw01.FixqLerps", spec := "fixqLerps", unfollowed := true, recurses := true, named := ["math/bits.divideError", "math/bits.overflowError"], apart := false }
def FixqLerpsSaid : Prop := fixqLerpsRow.holds Try.pinned (OpenSpec.ofChange fixqLerpsSpec)

/-- ITS FALSE NEIGHBOUR: 'it returns false'. Refute it at one input. -/
def fixqLerpsWrong : ChangeSpec := { name := "fixqLerps", fn := fun _ => fun
  | [d1, d2, d3, d4] => { results := [.lit (.bool false)], args := [d1, d2, d3, d4] }
  | _ => none }
def FixqLerpsWrongFalsely : Prop := fixqLerpsRow.holds Try.pinned (OpenSpec.ofChange fixqLerpsWrong)

/-- 'astrolabelaw01.FixqBetween': WHATEVER THE INPUT: true; the input reads as it did. -/
def fixqBetweenSpec : ChangeSpec := { name := "fixqBetween", fn := fun _ => fun
  | [d1, d2, d3, d4] => { results := [.lit (.bool true)], args := [d1, d2, d3, d4] }
  | _ => none }
def fixqBetweenRow : OpenClaim := { program := "ythgnpmchhikchaa", sum := "63dbddb24e551a7e53d668618eee386037ca3599a5ee0205211e9e80187a18b2", func := "astrolabe/astrolabelaw01.FixqBetween", spec := "fixqBetween", unfollowed := true, recurses := true, named := ["math/bits.divideError", "math/bits.overflowError"], apart := false }
def FixqBetweenSaid : Prop := fixqBetweenRow.holds Try.pinned (OpenSpec.ofChange fixqBetweenSpec)

/-- ITS FALSE NEIGHBOUR: 'it returns false'. Refute it at one input. -/
def fixqBetweenWrong : ChangeSpec := { name := "fixqBetween", fn := fun _ => fun
  | [d1, d2, d3, d4] => { results := [.lit (.bool false)], args := [d1, d2, d3, d4] }
  | _ => none }
def FixqBetweenWrongFalsely : Prop := fixqBetweenRow.holds Try.pinned (OpenSpec.ofChange fixqBetweenWrong)

/- THE SECOND FORM. 'bulk': how many values and letters a reading holds, each counted each time it is reached (what is shared counts as often as it is met; a slice's spare places count too). A statement '..UptoSaid' is the law's where the arguments, and the package variables that the reading takes, are together of bulk at most 1048576: NARROWER than '..Said'. Prove '..Said' where nothing that the law and all that it calls make is longer than what came in: it says more and counts as full. Else prove '..UptoSaid'. A law counts once. -/
mutual
def uptoBulk {H : Type} : DataW H → Nat
  | .lit (.string bytes) => bytes.length + 1
  | .lit _ => 1
  | .nil => 1
  | .ptr d => uptoBulk d + 1
  | .slice elems spare => uptoBulkAll elems + uptoBulkAll spare + 1
  | .agg parts => uptoBulkAll parts + 1
  | .iface _ d => uptoBulk d + 1
  | .map entries => uptoBulkEntries entries + 1
  | .held _ => 1
def uptoBulkAll {H : Type} : List (DataW H) → Nat
  | [] => 0
  | d :: r => uptoBulk d + uptoBulkAll r
def uptoBulkEntries {H : Type} : List (Lit × DataW H) → Nat
  | [] => 0
  | x :: r => uptoBulkEntry x + uptoBulkEntries r
def uptoBulkEntry {H : Type} : Lit × DataW H → Nat
  | (.string bytes, d) => bytes.length + uptoBulk d + 1
  | (_, d) => uptoBulk d + 1
 end
def uptoSmall : (H : Type) → List (DataW H) → Bool := fun _ ds => decide (uptoBulkAll ds ≤ 1048576)
def OpenSpec.upto (s : _root_.Go.ChangeSpec) : _root_.Go.OpenSpec := { _root_.Go.OpenSpec.ofChange s with cond := some uptoSmall }

/-- 'astrolabelaw01.FixqRoot', WHERE WHAT IT READS IS OF BULK AT MOST 1048576: true; the input reads as it did. -/
def fixqRootUptoRow : OpenClaim := { program := "ythgnpmchhikchaa", sum := "63dbddb24e551a7e53d668618eee386037ca3599a5ee0205211e9e80187a18b2", func := "astrolabe/astrolabelaw01.FixqRoot", spec := "fixqRoot", unfollowed := true, recurses := true, named := ["math/bits.divideError", "math/bits.overflowError"], apart := false, narrowed := true }
def FixqRootUptoSaid : Prop := fixqRootUptoRow.holds Try.pinned (OpenSpec.upto fixqRootSpec)

/-- 'astrolabelaw01.FixqMono', WHERE WHAT IT READS IS OF BULK AT MOST 1048576: true; the input reads as it did. -/
def fixqMonoUptoRow : OpenClaim := { program := "ythgnpmchhikchaa", sum := "63dbddb24e551a7e53d668618eee386037ca3599a5ee0205211e9e80187a18b2", func := "astrolabe/astrolabelaw01.FixqMono", spec := "fixqMono", unfollowed := true, recurses := true, named := ["math/bits.divideError", "math/bits.overflowError"], apart := false, narrowed := true }
def FixqMonoUptoSaid : Prop := fixqMonoUptoRow.holds Try.pinned (OpenSpec.upto fixqMonoSpec)

/-- 'astrolabelaw01.FixqLaws', WHERE WHAT IT READS IS OF BULK AT MOST 1048576: true; the input reads as it did. -/
def fixqLawsUptoRow : OpenClaim := { program := "ythgnpmchhikchaa", sum := "63dbddb24e551a7e53d668618eee386037ca3599a5ee0205211e9e80187a18b2", func := "astrolabe/astrolabelaw01.FixqLaws", spec := "fixqLaws", unfollowed := true, recurses := true, named := ["math/bits.divideError", "math/bits.overflowError"], apart := false, narrowed := true }
def FixqLawsUptoSaid : Prop := fixqLawsUptoRow.holds Try.pinned (OpenSpec.upto fixqLawsSpec)

/-- 'astrolabelaw01.FixqSums', WHERE WHAT IT READS IS OF BULK AT MOST 1048576: true; the input reads as it did. -/
def fixqSumsUptoRow : OpenClaim := { program := "ythgnpmchhikchaa", sum := "63dbddb24e551a7e53d668618eee386037ca3599a5ee0205211e9e80187a18b2", func := "astrolabe/astrolabelaw01.FixqSums", spec := "fixqSums", unfollowed := true, recurses := true, named := ["math/bits.divideError", "math/bits.overflowError"], apart := false, narrowed := true }
def FixqSumsUptoSaid : Prop := fixqSumsUptoRow.holds Try.pinned (OpenSpec.upto fixqSumsSpec)

/-- 'astrolabelaw01.FixqRoots', WHERE WHAT IT READS IS OF BULK AT MOST 1048576: true; the input reads as it did. -/
def fixqRootsUptoRow : OpenClaim := { program := "ythgnpmchhikchaa", sum := "63dbddb24e551a7e53d668618eee386037ca3599a5ee0205211e9e80187a18b2", func := "astrolabe/astrolabelaw01.FixqRoots", spec := "fixqRoots", unfollowed := true, recurses := true, named := ["math/bits.divideError", "math/bits.overflowError"], apart := false, narrowed := true }
def FixqRootsUptoSaid : Prop := fixqRootsUptoRow.holds Try.pinned (OpenSpec.upto fixqRootsSpec)

/-- 'astrolabelaw01.FixqLerps', WHERE WHAT IT READS IS OF BULK AT MOST 1048576: true; the input reads as it did. -/
def fixqLerpsUptoRow : OpenClaim := { program := "ythgnpmchhikchaa", sum := "63dbddb24e551a7e53d668618eee386037ca3599a5ee0205211e9e80187a18b2", func := "astrolabe/astrolabelaw01.FixqLerps", spec := "fixqLerps", unfollowed := true, recurses := true, named := ["math/bits.divideError", "math/bits.overflowError"], apart := false, narrowed := true }
def FixqLerpsUptoSaid : Prop := fixqLerpsUptoRow.holds Try.pinned (OpenSpec.upto fixqLerpsSpec)

/-- 'astrolabelaw01.FixqBetween', WHERE WHAT IT READS IS OF BULK AT MOST 1048576: true; the input reads as it did. -/
def fixqBetweenUptoRow : OpenClaim := { program := "ythgnpmchhikchaa", sum := "63dbddb24e551a7e53d668618eee386037ca3599a5ee0205211e9e80187a18b2", func := "astrolabe/astrolabelaw01.FixqBetween", spec := "fixqBetween", unfollowed := true, recurses := true, named := ["math/bits.divideError", "math/bits.overflowError"], apart := false, narrowed := true }
def FixqBetweenUptoSaid : Prop := fixqBetweenUptoRow.holds Try.pinned (OpenSpec.upto fixqBetweenSpec)

end Rows
end Go.Proofs.Ythgnpmchhikchaa
