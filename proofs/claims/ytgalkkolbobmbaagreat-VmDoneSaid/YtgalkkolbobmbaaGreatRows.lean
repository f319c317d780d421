/-
  No cell of these rows narrows 'for every input' (looked for: loops, veiled, ifaces, maps, wideKeys, modest, calm, conditions, laid).
  DERIVED. THE GIVEN ROWS OF THIS SEAT. 16 by the template 'for every input the law returns true; each argument reads behind the call as it read before'; 0 by the template 'total and deterministic' (their statements: YtgalkkolbobmbaaGreatTotals.lean).
  GIVEN WITH THE SEED: the statements are not yours to turn. If you find one false, say at which input.
  Laid BY PROGRAM, IN A SANDBOX (cutbox-rows.mjs): the forced cells as the released guide's own fill.sh prints them over the translation 108ae9802a03db7f… (all of the seat's roots in one cut). By AI agents, Wed Nov 11 2026. No macro, syntax, notation, axiom, sorry.
-/
import Derived.Test.YtgalkkolbobmbaaGreatChecked
import GoSem.Claim
import GoSem.ClaimJoined
import GoSem.ClaimMapViews
import Derived.JoinedTies
import Derived.KernelRfl
namespace Go.Proofs.YtgalkkolbobmbaaGreat
/- THE CELL 'sum', in the pinned program and in every row, IS THE sha256 OF THE DUMP (.gsa) THAT YtgalkkolbobmbaaGreatProg.lean LOADS. Nothing in Lean hashes anything: it is a label: what it is worth is what the hold of that sum in a sandbox is worth. -/
noncomputable def Tryz.pinned : Pinned := { name := "ytgalkkolbobmbaagreat", sum := "108ae9802a03db7f1de1e79fc5a3f3c0a352b959c448d9555215693147962fe8", checked := Tryz.checked }
namespace Rows
def none {H : Type} : Left H := { results := [], args := [] }

/-- 'astrolabelaw18.VmDone': WHATEVER THE INPUT: true; the input reads as it did. -/
def vmDoneSpec : ChangeSpec := { name := "vmDone", fn := fun _ => fun
  | [d1, d2, d3, d4, d5] => { results := [.lit (.bool true)], args := [d1, d2, d3, d4, d5] }
  | _ => none }
def vmDoneRow : OpenClaim := { program := "ytgalkkolbobmbaagreat", sum := "108ae9802a03db7f1de1e79fc5a3f3c0a352b959c448d9555215693147962fe8", func := "astrolabe/astrolabelaw18.VmDone", spec := "vmDone", unfollowed := true, recurses := true, named := ["math/bits.divideError", "math/bits.overflowError"], apart := false }
def VmDoneSaid : Prop := vmDoneRow.holds Tryz.pinned (OpenSpec.ofChange vmDoneSpec)

/-- ITS FALSE NEIGHBOUR: 'it returns false'. Refute it at one input. -/
def vmDoneWrong : ChangeSpec := { name := "vmDone", fn := fun _ => fun
  | [d1, d2, d3, d4, d5] => { results := [.lit (.bool false)], args := [d1, d2, d3, d4, d5] }
  | _ => none }
def VmDoneWrongFalsely : Prop := vmDoneRow.holds Tryz.pinned (OpenSpec.ofChange vmDoneWrong)

/-- 'astrolabelaw18.VmNone': WHATEVER THE INPUT: true; the input reads as it did. -/
def vmNoneSpec : ChangeSpec := { name := "vmNone", fn := fun _ => fun
  | [d1, d2, d3, d4] => { results := [.lit (.bool true)], args := [d1, d2, d3, d4] }
  | _ => none }
def vmNoneRow : OpenClaim := { program := "ytgalkkolbobmbaagreat", sum := "108ae9802a03db7f1de1e79fc5a3f3c0a352b959c448d9555215693147962fe8", func := "astrolabe/astrolabelaw18.VmNone", spec := "vmNone", unfollowed := true, recurses := true, named := ["math/bits.divideError", "math/bits.overflowError"], apart := false }
def VmNoneSaid : Prop := vmNoneRow.holds Tryz.pinned (OpenSpec.ofChange vmNoneSpec)

/-- ITS FALSE NEIGHBOUR: 'it returns false'. Refute it at one input. -/
def vmNoneWrong : ChangeSpec := { name := "vmNone", fn := fun _ => fun
  | [d1, d2, d3, d4] => { results := [.lit (.bool false)], args := [d1, d2, d3, d4] }
  | _ => none }
def VmNoneWrongFalsely : Prop := vmNoneRow.holds Tryz.pinned (OpenSpec.ofChange vmNoneWrong)

/-- 'astrolabelaw19.HeunTwice': WHATEVER THE INPUT: true; the input reads as it did. -/
def heunTwiceSpec : ChangeSpec := { name := "heunTwice", fn := fun _ => fun
  | [d1, d2, d3, d4, d5] => { results := [.lit (.bool true)], args := [d1, d2, d3, d4, d5] }
  | _ => none }
def heunTwiceRow : OpenClaim := { program := "ytgalkkolbobmbaagreat", sum := "108ae9802a03db7f1de1e79fc5a3f3c0a352b959c448d9555215693147962fe8", func := "astrolabe/astrolabelaw19.HeunTwice", spec := "heunTwice", unfollowed := true, recurses := true, named := ["math/bits.divideError", "math/bits.overflowError"], apart := false }
def HeunTwiceSaid : Prop := heunTwiceRow.holds Tryz.pinned (OpenSpec.ofChange heunTwiceSpec)

/-- ITS FALSE NEIGHBOUR: 'it returns false'. Refute it at one input. -/
def heunTwiceWrong : ChangeSpec := { name := "heunTwice", fn := fun _ => fun
  | [d1, d2, d3, d4, d5] => { results := [.lit (.bool false)], args := [d1, d2, d3, d4, d5] }
  | _ => none }
def HeunTwiceWrongFalsely : Prop := heunTwiceRow.holds Tryz.pinned (OpenSpec.ofChange heunTwiceWrong)

/-- 'astrolabelaw19.HeunEven': WHATEVER THE INPUT: true; the input reads as it did. -/
def heunEvenSpec : ChangeSpec := { name := "heunEven", fn := fun _ => fun
  | [d1, d2, d3] => { results := [.lit (.bool true)], args := [d1, d2, d3] }
  | _ => none }
def heunEvenRow : OpenClaim := { program := "ytgalkkolbobmbaagreat", sum := "108ae9802a03db7f1de1e79fc5a3f3c0a352b959c448d9555215693147962fe8", func := "astrolabe/astrolabelaw19.HeunEven", spec := "heunEven", unfollowed := true, recurses := true, named := ["math/bits.divideError", "math/bits.overflowError"], apart := false }
def HeunEvenSaid : Prop := heunEvenRow.holds Tryz.pinned (OpenSpec.ofChange heunEvenSpec)

/-- ITS FALSE NEIGHBOUR: 'it returns false'. Refute it at one input. -/
def heunEvenWrong : ChangeSpec := { name := "heunEven", fn := fun _ => fun
  | [d1, d2, d3] => { results := [.lit (.bool false)], args := [d1, d2, d3] }
  | _ => none }
def HeunEvenWrongFalsely : Prop := heunEvenRow.holds Tryz.pinned (OpenSpec.ofChange heunEvenWrong)

/-- 'astrolabelaw19.HeunBetween': WHATEVER THE INPUT: true; the input reads as it did. -/
def heunBetweenSpec : ChangeSpec := { name := "heunBetween", fn := fun _ => fun
  | [d1, d2, d3, d4] => { results := [.lit (.bool true)], args := [d1, d2, d3, d4] }
  | _ => none }
def heunBetweenRow : OpenClaim := { program := "ytgalkkolbobmbaagreat", sum := "108ae9802a03db7f1de1e79fc5a3f3c0a352b959c448d9555215693147962fe8", func := "astrolabe/astrolabelaw19.HeunBetween", spec := "heunBetween", unfollowed := true, recurses := true, named := ["math/bits.divideError", "math/bits.overflowError"], apart := false }
def HeunBetweenSaid : Prop := heunBetweenRow.holds Tryz.pinned (OpenSpec.ofChange heunBetweenSpec)

/-- ITS FALSE NEIGHBOUR: 'it returns false'. Refute it at one input. -/
def heunBetweenWrong : ChangeSpec := { name := "heunBetween", fn := fun _ => fun
  | [d1, d2, d3, d4] => { results := [.lit (.bool false)], args := [d1, d2, d3, d4] }
  | _ => none }
def HeunBetweenWrongFalsely : Prop := heunBetweenRow.holds Tryz.pinned (OpenSpec.ofChange heunBetweenWrong)

/-- 'astrolabelaw19.HeunEnds': WHATEVER THE INPUT: true; the input reads as it did. -/
def heunEndsSpec : ChangeSpec := { name := "heunEnds", fn := fun _ => fun
  | [d1, d2, d3] => { results := [.lit (.bool true)], args := [d1, d2, d3] }
  | _ => none }
def heunEndsRow : OpenClaim := { program := "ytgalkkolbobmbaagreat", sum := "108ae9802a03db7f1de1e79fc5a3f3c0a352b959c448d9555215693147962fe8", func := "astrolabe/astrolabelaw19.HeunEnds", spec := "heunEnds", unfollowed := true, recurses := true, named := ["math/bits.divideError", "math/bits.overflowError"], apart := false }
def HeunEndsSaid : Prop := heunEndsRow.holds Tryz.pinned (OpenSpec.ofChange heunEndsSpec)

/-- ITS FALSE NEIGHBOUR: 'it returns false'. Refute it at one input. -/
def heunEndsWrong : ChangeSpec := { name := "heunEnds", fn := fun _ => fun
  | [d1, d2, d3] => { results := [.lit (.bool false)], args := [d1, d2, d3] }
  | _ => none }
def HeunEndsWrongFalsely : Prop := heunEndsRow.holds Tryz.pinned (OpenSpec.ofChange heunEndsWrong)

/-- 'astrolabelaw21.CascadeEnds': WHATEVER THE INPUT: true; the input reads as it did. -/
def cascadeEndsSpec : ChangeSpec := { name := "cascadeEnds", fn := fun _ => fun
  | [d1, d2, d3, d4, d5, d6] => { results := [.lit (.bool true)], args := [d1, d2, d3, d4, d5, d6] }
  | _ => none }
def cascadeEndsRow : OpenClaim := { program := "ytgalkkolbobmbaagreat", sum := "108ae9802a03db7f1de1e79fc5a3f3c0a352b959c448d9555215693147962fe8", func := "astrolabe/astrolabelaw21.CascadeEnds", spec := "cascadeEnds", unfollowed := true, recurses := true, named := ["math/bits.divideError", "math/bits.overflowError"], apart := false }
def CascadeEndsSaid : Prop := cascadeEndsRow.holds Tryz.pinned (OpenSpec.ofChange cascadeEndsSpec)

/-- ITS FALSE NEIGHBOUR: 'it returns false'. Refute it at one input. -/
def cascadeEndsWrong : ChangeSpec := { name := "cascadeEnds", fn := fun _ => fun
  | [d1, d2, d3, d4, d5, d6] => { results := [.lit (.bool false)], args := [d1, d2, d3, d4, d5, d6] }
  | _ => none }
def CascadeEndsWrongFalsely : Prop := cascadeEndsRow.holds Tryz.pinned (OpenSpec.ofChange cascadeEndsWrong)

/-- 'astrolabelaw21.CascadeMore': WHATEVER THE INPUT: true; the input reads as it did. -/
def cascadeMoreSpec : ChangeSpec := { name := "cascadeMore", fn := fun _ => fun
  | [d1, d2, d3, d4, d5, d6, d7] => { results := [.lit (.bool true)], args := [d1, d2, d3, d4, d5, d6, d7] }
  | _ => none }
def cascadeMoreRow : OpenClaim := { program := "ytgalkkolbobmbaagreat", sum := "108ae9802a03db7f1de1e79fc5a3f3c0a352b959c448d9555215693147962fe8", func := "astrolabe/astrolabelaw21.CascadeMore", spec := "cascadeMore", unfollowed := true, recurses := true, named := ["math/bits.divideError", "math/bits.overflowError"], apart := false }
def CascadeMoreSaid : Prop := cascadeMoreRow.holds Tryz.pinned (OpenSpec.ofChange cascadeMoreSpec)

/-- ITS FALSE NEIGHBOUR: 'it returns false'. Refute it at one input. -/
def cascadeMoreWrong : ChangeSpec := { name := "cascadeMore", fn := fun _ => fun
  | [d1, d2, d3, d4, d5, d6, d7] => { results := [.lit (.bool false)], args := [d1, d2, d3, d4, d5, d6, d7] }
  | _ => none }
def CascadeMoreWrongFalsely : Prop := cascadeMoreRow.holds Tryz.pinned (OpenSpec.ofChange cascadeMoreWrong)

/-- 'astrolabelaw21.CascadeOnce': WHATEVER THE INPUT: true; the input reads as it did. -/
def cascadeOnceSpec : ChangeSpec := { name := "cascadeOnce", fn := fun _ => fun
  | [d1, d2, d3, d4, d5] => { results := [.lit (.bool true)], args := [d1, d2, d3, d4, d5] }
  | _ => none }
def cascadeOnceRow : OpenClaim := { program := "ytgalkkolbobmbaagreat", sum := "108ae9802a03db7f1de1e79fc5a3f3c0a352b959c448d9555215693147962fe8", func := "astrolabe/astrolabelaw21.CascadeOnce", spec := "cascadeOnce", unfollowed := true, recurses := true, named := ["math/bits.divideError", "math/bits.overflowError"], apart := false }
def CascadeOnceSaid : Prop := cascadeOnceRow.holds Tryz.pinned (OpenSpec.ofChange cascadeOnceSpec)

/-- ITS FALSE NEIGHBOUR: 'it returns false'. Refute it at one input. -/
def cascadeOnceWrong : ChangeSpec := { name := "cascadeOnce", fn := fun _ => fun
  | [d1, d2, d3, d4, d5] => { results := [.lit (.bool false)], args := [d1, d2, d3, d4, d5] }
  | _ => none }
def CascadeOnceWrongFalsely : Prop := cascadeOnceRow.holds Tryz.pinned (OpenSpec.ofChange cascadeOnceWrong)

/-- 'astrolabelaw21.CascadeTells': WHATEVER THE INPUT: true; the input reads as it did. -/
def cascadeTellsSpec : ChangeSpec := { name := "cascadeTells", fn := fun _ => fun
  | [d1, d2, d3, d4, d5, d6] => { results := [.lit (.bool true)], args := [d1, d2, d3, d4, d5, d6] }
  | _ => none }
def cascadeTellsRow : OpenClaim := { program := "ytgalkkolbobmbaagreat", sum := "108ae9802a03db7f1de1e79fc5a3f3c0a352b959c448d9555215693147962fe8", func := "astrolabe/astrolabelaw21.CascadeTells", spec := "cascadeTells", unfollowed := true, recurses := true, named := ["math/bits.divideError", "math/bits.overflowError"], apart := false }
def CascadeTellsSaid : Prop := cascadeTellsRow.holds Tryz.pinned (OpenSpec.ofChange cascadeTellsSpec)

/-- ITS FALSE NEIGHBOUR: 'it returns false'. Refute it at one input. -/
def cascadeTellsWrong : ChangeSpec := { name := "cascadeTells", fn := fun _ => fun
  | [d1, d2, d3, d4, d5, d6] => { results := [.lit (.bool false)], args := [d1, d2, d3, d4, d5, d6] }
  | _ => none }
def CascadeTellsWrongFalsely : Prop := cascadeTellsRow.holds Tryz.pinned (OpenSpec.ofChange cascadeTellsWrong)

/-- 'astrolabelaw20.CrossRaised': WHATEVER THE INPUT: true; the input reads as it did. -/
def crossRaisedSpec : ChangeSpec := { name := "crossRaised", fn := fun _ => fun
  | [d1, d2] => { results := [.lit (.bool true)], args := [d1, d2] }
  | _ => none }
def crossRaisedRow : OpenClaim := { program := "ytgalkkolbobmbaagreat", sum := "108ae9802a03db7f1de1e79fc5a3f3c0a352b959c448d9555215693147962fe8", func := "astrolabe/astrolabelaw20.CrossRaised", spec := "crossRaised", unfollowed := true, recurses := true, named := ["math/bits.divideError", "math/bits.overflowError"], apart := false }
def CrossRaisedSaid : Prop := crossRaisedRow.holds Tryz.pinned (OpenSpec.ofChange crossRaisedSpec)

/-- ITS FALSE NEIGHBOUR: 'it returns false'. Refute it at one input. -/
def crossRaisedWrong : ChangeSpec := { name := "crossRaised", fn := fun _ => fun
  | [d1, d2] => { results := [.lit (.bool false)], args := [d1, d2] }
  | _ => none }
def CrossRaisedWrongFalsely : Prop := crossRaisedRow.holds Tryz.pinned (OpenSpec.ofChange crossRaisedWrong)

/-- 'astrolabelaw20.CrossDeeper': WHATEVER THE INPUT: true; the input reads as it did. -/
def crossDeeperSpec : ChangeSpec := { name := "crossDeeper", fn := fun _ => fun
  | [d1, d2, d3, d4, d5, d6] => { results := [.lit (.bool true)], args := [d1, d2, d3, d4, d5, d6] }
  | _ => none }
def crossDeeperRow : OpenClaim := { program := "ytgalkkolbobmbaagreat", sum := "108ae9802a03db7f1de1e79fc5a3f3c0a352b959c448d9555215693147962fe8", func := "astrolabe/astrolabelaw20.CrossDeeper", spec := "crossDeeper", unfollowed := true, recurses := true, named := ["math/bits.divideError", "math/bits.overflowError"], apart := false }
def CrossDeeperSaid : Prop := crossDeeperRow.holds Tryz.pinned (OpenSpec.ofChange crossDeeperSpec)

/-- ITS FALSE NEIGHBOUR: 'it returns false'. Refute it at one input. -/
def crossDeeperWrong : ChangeSpec := { name := "crossDeeper", fn := fun _ => fun
  | [d1, d2, d3, d4, d5, d6] => { results := [.lit (.bool false)], args := [d1, d2, d3, d4, d5, d6] }
  | _ => none }
def CrossDeeperWrongFalsely : Prop := crossDeeperRow.holds Tryz.pinned (OpenSpec.ofChange crossDeeperWrong)

/-- 'astrolabelaw20.CrossNone': WHATEVER THE INPUT: true; the input reads as it did. -/
def crossNoneSpec : ChangeSpec := { name := "crossNone", fn := fun _ => fun
  | [d1, d2, d3, d4, d5] => { results := [.lit (.bool true)], args := [d1, d2, d3, d4, d5] }
  | _ => none }
def crossNoneRow : OpenClaim := { program := "ytgalkkolbobmbaagreat", sum := "108ae9802a03db7f1de1e79fc5a3f3c0a352b959c448d9555215693147962fe8", func := "astrolabe/astrolabelaw20.CrossNone", spec := "crossNone", unfollowed := true, recurses := true, named := ["math/bits.divideError", "math/bits.overflowError"], apart := false }
def CrossNoneSaid : Prop := crossNoneRow.holds Tryz.pinned (OpenSpec.ofChange crossNoneSpec)

/-- ITS FALSE NEIGHBOUR: 'it returns false'. Refute it at one input. -/
def crossNoneWrong : ChangeSpec := { name := "crossNone", fn := fun _ => fun
  | [d1, d2, d3, d4, d5] => { results := [.lit (.bool false)], args := [d1, d2, d3, d4, d5] }
  | _ => none }
def CrossNoneWrongFalsely : Prop := crossNoneRow.holds Tryz.pinned (OpenSpec.ofChange crossNoneWrong)

/-- 'astrolabelaw22.SimGrows': WHATEVER THE INPUT: true; the input reads as it did. -/
def simGrowsSpec : ChangeSpec := { name := "simGrows", fn := fun _ => fun
  | [d1, d2] => { results := [.lit (.bool true)], args := [d1, d2] }
  | _ => none }
def simGrowsRow : OpenClaim := { program := "ytgalkkolbobmbaagreat", sum := "108ae9802a03db7f1de1e79fc5a3f3c0a352b959c448d9555215693147962fe8", func := "astrolabe/astrolabelaw22.SimGrows", spec := "simGrows", unfollowed := true, recurses := true, named := ["math/bits.divideError", "math/bits.overflowError"], apart := false }
def SimGrowsSaid : Prop := simGrowsRow.holds Tryz.pinned (OpenSpec.ofChange simGrowsSpec)

/-- ITS FALSE NEIGHBOUR: 'it returns false'. Refute it at one input. -/
def simGrowsWrong : ChangeSpec := { name := "simGrows", fn := fun _ => fun
  | [d1, d2] => { results := [.lit (.bool false)], args := [d1, d2] }
  | _ => none }
def SimGrowsWrongFalsely : Prop := simGrowsRow.holds Tryz.pinned (OpenSpec.ofChange simGrowsWrong)

/-- 'astrolabelaw22.SimFirst': WHATEVER THE INPUT: true; the input reads as it did. -/
def simFirstSpec : ChangeSpec := { name := "simFirst", fn := fun _ => fun
  | [d1, d2, d3] => { results := [.lit (.bool true)], args := [d1, d2, d3] }
  | _ => none }
def simFirstRow : OpenClaim := { program := "ytgalkkolbobmbaagreat", sum := "108ae9802a03db7f1de1e79fc5a3f3c0a352b959c448d9555215693147962fe8", func := "astrolabe/astrolabelaw22.SimFirst", spec := "simFirst", unfollowed := true, recurses := true, named := ["math/bits.divideError", "math/bits.overflowError"], apart := false }
def SimFirstSaid : Prop := simFirstRow.holds Tryz.pinned (OpenSpec.ofChange simFirstSpec)

/-- ITS FALSE NEIGHBOUR: 'it returns false'. Refute it at one input. -/
def simFirstWrong : ChangeSpec := { name := "simFirst", fn := fun _ => fun
  | [d1, d2, d3] => { results := [.lit (.bool false)], args := [d1, d2, d3] }
  | _ => none }
def SimFirstWrongFalsely : Prop := simFirstRow.holds Tryz.pinned (OpenSpec.ofChange simFirstWrong)

/-- 'astrolabelaw22.SimGoes': WHATEVER THE INPUT: true; the input reads as it did. -/
def simGoesSpec : ChangeSpec := { name := "simGoes", fn := fun _ => fun
  | [d1, d2] => { results := [.lit (.bool true)], args := [d1, d2] }
  | _ => none }
def simGoesRow : OpenClaim := { program := "ytgalkkolbobmbaagreat", sum := "108ae9802a03db7f1de1e79fc5a3f3c0a352b959c448d9555215693147962fe8", func := "astrolabe/astrolabelaw22.SimGoes", spec := "simGoes", unfollowed := true, recurses := true, named := ["math/bits.divideError", "math/bits.overflowError"], apart := false }
def SimGoesSaid : Prop := simGoesRow.holds Tryz.pinned (OpenSpec.ofChange simGoesSpec)

/-- ITS FALSE NEIGHBOUR: 'it returns false'. Refute it at one input. -/
def simGoesWrong : ChangeSpec := { name := "simGoes", fn := fun _ => fun
  | [d1, d2] => { results := [.lit (.bool false)], args := [d1, d2] }
  | _ => none }
def SimGoesWrongFalsely : Prop := simGoesRow.holds Tryz.pinned (OpenSpec.ofChange simGoesWrong)

/- THE SECOND FORM. 'bulk': how many values and letters a reading holds, each counted each time it is reached (what is shared counts as often as it is met; a slice's spare places count too). A statement '..UptoSaid' is the law's where the arguments, and the package variables that the reading takes, are together of bulk at most 1048576: NARROWER than '..Said'. Prove '..Said' where nothing that the law and all that it calls make is longer than what came in: it says more and counts as full. Else prove '..UptoSaid'. A law counts once. -/
mutual
def uptoBulk {H : Type} : DataW H → Nat
  | .lit (.string bytes) => bytes.length + 1
  | .lit _ => 1
  | .nil => 1
  | .ptr d => uptoBulk d + 1
  | .slice elems spare => uptoBulkAll elems + uptoBulkAll spare + 1
  | .agg parts => uptoBulkAll parts + 1
  | .iface _ d => uptoBulk d + 1
  | .map entries => uptoBulkEntries entries + 1
  | .held _ => 1
def uptoBulkAll {H : Type} : List (DataW H) → Nat
  | [] => 0
  | d :: r => uptoBulk d + uptoBulkAll r
def uptoBulkEntries {H : Type} : List (Lit × DataW H) → Nat
  | [] => 0
  | x :: r => uptoBulkEntry x + uptoBulkEntries r
def uptoBulkEntry {H : Type} : Lit × DataW H → Nat
  | (.string bytes, d) => bytes.length + uptoBulk d + 1
  | (_, d) => uptoBulk d + 1
 end
def uptoSmall : (H : Type) → List (DataW H) → Bool := fun _ ds => decide (uptoBulkAll ds ≤ 1048576)
def OpenSpec.upto (s : _root_.Go.ChangeSpec) : _root_.Go.OpenSpec := { _root_.Go.OpenSpec.ofChange s with cond := some uptoSmall }

/-- 'astrolabelaw18.VmDone', WHERE WHAT IT READS IS OF BULK AT MOST 1048576: true; the input reads as it did. -/
def vmDoneUptoRow : OpenClaim := { program := "ytgalkkolbobmbaagreat", sum := "108ae9802a03db7f1de1e79fc5a3f3c0a352b959c448d9555215693147962fe8", func := "astrolabe/astrolabelaw18.VmDone", spec := "vmDone", unfollowed := true, recurses := true, named := ["math/bits.divideError", "math/bits.overflowError"], apart := false, narrowed := true }
def VmDoneUptoSaid : Prop := vmDoneUptoRow.holds Tryz.pinned (OpenSpec.upto vmDoneSpec)

/-- 'astrolabelaw18.VmNone', WHERE WHAT IT READS IS OF BULK AT MOST 1048576: true; the input reads as it did. -/
def vmNoneUptoRow : OpenClaim := { program := "ytgalkkolbobmbaagreat", sum := "108ae9802a03db7f1de1e79fc5a3f3c0a352b959c448d9555215693147962fe8", func := "astrolabe/astrolabelaw18.VmNone", spec := "vmNone", unfollowed := true, recurses := true, named := ["math/bits.divideError", "math/bits.overflowError"], apart := false, narrowed := true }
def VmNoneUptoSaid : Prop := vmNoneUptoRow.holds Tryz.pinned (OpenSpec.upto vmNoneSpec)

/-- 'astrolabelaw19.HeunTwice', WHERE WHAT IT READS IS OF BULK AT MOST 1048576: true; the input reads as it did. -/
def heunTwiceUptoRow : OpenClaim := { program := "ytgalkkolbobmbaagreat", sum := "108ae9802a03db7f1de1e79fc5a3f3c0a352b959c448d9555215693147962fe8", func := "astrolabe/astrolabelaw19.HeunTwice", spec := "heunTwice", unfollowed := true, recurses := true, named := ["math/bits.divideError", "math/bits.overflowError"], apart := false, narrowed := true }
def HeunTwiceUptoSaid : Prop := heunTwiceUptoRow.holds Tryz.pinned (OpenSpec.upto heunTwiceSpec)

/-- 'astrolabelaw19.HeunEven', WHERE WHAT IT READS IS OF BULK AT MOST 1048576: true; the input reads as it did. -/
def heunEvenUptoRow : OpenClaim := { program := "ytgalkkolbobmbaagreat", sum := "108ae9802a03db7f1de1e79fc5a3f3c0a352b959c448d9555215693147962fe8", func := "astrolabe/astrolabelaw19.HeunEven", spec := "heunEven", unfollowed := true, recurses := true, named := ["math/bits.divideError", "math/bits.overflowError"], apart := false, narrowed := true }
def HeunEvenUptoSaid : Prop := heunEvenUptoRow.holds Tryz.pinned (OpenSpec.upto heunEvenSpec)

/-- 'astrolabelaw19.HeunBetween', WHERE WHAT IT READS IS OF BULK AT MOST 1048576: true; the input reads as it did. -/
def heunBetweenUptoRow : OpenClaim := { program := "ytgalkkolbobmbaagreat", sum := "108ae9802a03db7f1de1e79fc5a3f3c0a352b959c448d9555215693147962fe8", func := "astrolabe/astrolabelaw19.HeunBetween", spec := "heunBetween", unfollowed := true, recurses := true, named := ["math/bits.divideError", "math/bits.overflowError"], apart := false, narrowed := true }
def HeunBetweenUptoSaid : Prop := heunBetweenUptoRow.holds Tryz.pinned (OpenSpec.upto heunBetweenSpec)

/-- 'astrolabelaw19.HeunEnds', WHERE WHAT IT READS IS OF BULK AT MOST 1048576: true; the input reads as it did. -/
def heunEndsUptoRow : OpenClaim := { program := "ytgalkkolbobmbaagreat", sum := "108ae9802a03db7f1de1e79fc5a3f3c0a352b959c448d9555215693147962fe8", func := "astrolabe/astrolabelaw19.HeunEnds", spec := "heunEnds", unfollowed := true, recurses := true, named := ["math/bits.divideError", "math/bits.overflowError"], apart := false, narrowed := true }
def HeunEndsUptoSaid : Prop := heunEndsUptoRow.holds Tryz.pinned (OpenSpec.upto heunEndsSpec)

/-- 'astrolabelaw21.CascadeEnds', WHERE WHAT IT READS IS OF BULK AT MOST 1048576: true; the input reads as it did. -/
def cascadeEndsUptoRow : OpenClaim := { program := "ytgalkkolbobmbaagreat", sum := "108ae9802a03db7f1de1e79fc5a3f3c0a352b959c448d9555215693147962fe8", func := "astrolabe/astrolabelaw21.CascadeEnds", spec := "cascadeEnds", unfollowed := true, recurses := true, named := ["math/bits.divideError", "math/bits.overflowError"], apart := false, narrowed := true }
def CascadeEndsUptoSaid : Prop := cascadeEndsUptoRow.holds Tryz.pinned (OpenSpec.upto cascadeEndsSpec)

/-- 'astrolabelaw21.CascadeMore', WHERE WHAT IT READS IS OF BULK AT MOST 1048576: true; the input reads as it did. -/
def cascadeMoreUptoRow : OpenClaim := { program := "ytgalkkolbobmbaagreat", sum := "108ae9802a03db7f1de1e79fc5a3f3c0a352b959c448d9555215693147962fe8", func := "astrolabe/astrolabelaw21.CascadeMore", spec := "cascadeMore", unfollowed := true, recurses := true, named := ["math/bits.divideError", "math/bits.overflowError"], apart := false, narrowed := true }
def CascadeMoreUptoSaid : Prop := cascadeMoreUptoRow.holds Tryz.pinned (OpenSpec.upto cascadeMoreSpec)

/-- 'astrolabelaw21.CascadeOnce', WHERE WHAT IT READS IS OF BULK AT MOST 1048576: true; the input reads as it did. -/
def cascadeOnceUptoRow : OpenClaim := { program := "ytgalkkolbobmbaagreat", sum := "108ae9802a03db7f1de1e79fc5a3f3c0a352b959c448d9555215693147962fe8", func := "astrolabe/astrolabelaw21.CascadeOnce", spec := "cascadeOnce", unfollowed := true, recurses := true, named := ["math/bits.divideError", "math/bits.overflowError"], apart := false, narrowed := true }
def CascadeOnceUptoSaid : Prop := cascadeOnceUptoRow.holds Tryz.pinned (OpenSpec.upto cascadeOnceSpec)

/-- 'astrolabelaw21.CascadeTells', WHERE WHAT IT READS IS OF BULK AT MOST 1048576: true; the input reads as it did. -/
def cascadeTellsUptoRow : OpenClaim := { program := "ytgalkkolbobmbaagreat", sum := "108ae9802a03db7f1de1e79fc5a3f3c0a352b959c448d9555215693147962fe8", func := "astrolabe/astrolabelaw21.CascadeTells", spec := "cascadeTells", unfollowed := true, recurses := true, named := ["math/bits.divideError", "math/bits.overflowError"], apart := false, narrowed := true }
def CascadeTellsUptoSaid : Prop := cascadeTellsUptoRow.holds Tryz.pinned (OpenSpec.upto cascadeTellsSpec)

/-- 'astrolabelaw20.CrossRaised', WHERE WHAT IT READS IS OF BULK AT MOST 1048576: true; the input reads as it did. -/
def crossRaisedUptoRow : OpenClaim := { program := "ytgalkkolbobmbaagreat", sum := "108ae9802a03db7f1de1e79fc5a3f3c0a352b959c448d9555215693147962fe8", func := "astrolabe/astrolabelaw20.CrossRaised", spec := "crossRaised", unfollowed := true, recurses := true, named := ["math/bits.divideError", "math/bits.overflowError"], apart := false, narrowed := true }
def CrossRaisedUptoSaid : Prop := crossRaisedUptoRow.holds Tryz.pinned (OpenSpec.upto crossRaisedSpec)

/-- 'astrolabelaw20.CrossDeeper', WHERE WHAT IT READS IS OF BULK AT MOST 1048576: true; the input reads as it did. -/
def crossDeeperUptoRow : OpenClaim := { program := "ytgalkkolbobmbaagreat", sum := "108ae9802a03db7f1de1e79fc5a3f3c0a352b959c448d9555215693147962fe8", func := "astrolabe/astrolabelaw20.CrossDeeper", spec := "crossDeeper", unfollowed := true, recurses := true, named := ["math/bits.divideError", "math/bits.overflowError"], apart := false, narrowed := true }
def CrossDeeperUptoSaid : Prop := crossDeeperUptoRow.holds Tryz.pinned (OpenSpec.upto crossDeeperSpec)

/-- 'astrolabelaw20.CrossNone', WHERE WHAT IT READS IS OF BULK AT MOST 1048576: true; the input reads as it did. -/
def crossNoneUptoRow : OpenClaim := { program := "ytgalkkolbobmbaagreat", sum := "108ae9802a03db7f1de1e79fc5a3f3c0a352b959c448d9555215693147962fe8", func := "astrolabe/astrolabelaw20.CrossNone", spec := "crossNone", unfollowed := true, recurses := true, named := ["math/bits.divideError", "math/bits.overflowError"], apart := false, narrowed := true }
def CrossNoneUptoSaid : Prop := crossNoneUptoRow.holds Tryz.pinned (OpenSpec.upto crossNoneSpec)

/-- 'astrolabelaw22.SimGrows', WHERE WHAT IT READS IS OF BULK AT MOST 1048576: true; the input reads as it did. -/
def simGrowsUptoRow : OpenClaim := { program := "ytgalkkolbobmbaagreat", sum := "108ae9802a03db7f1de1e79fc5a3f3c0a352b959c448d9555215693147962fe8", func := "astrolabe/astrolabelaw22.SimGrows", spec := "simGrows", unfollowed := true, recurses := true, named := ["math/bits.divideError", "math/bits.overflowError"], apart := false, narrowed := true }
def SimGrowsUptoSaid : Prop := simGrowsUptoRow.holds Tryz.pinned (OpenSpec.upto simGrowsSpec)

/-- 'astrolabelaw22.SimFirst', WHERE WHAT IT READS IS OF BULK AT MOST 1048576: true; the input reads as it did. -/
def simFirstUptoRow : OpenClaim := { program := "ytgalkkolbobmbaagreat", sum := "108ae9802a03db7f1de1e79fc5a3f3c0a352b959c448d9555215693147962fe8", func := "astrolabe/astrolabelaw22.SimFirst", spec := "simFirst", unfollowed := true, recurses := true, named := ["math/bits.divideError", "math/bits.overflowError"], apart := false, narrowed := true }
def SimFirstUptoSaid : Prop := simFirstUptoRow.holds Tryz.pinned (OpenSpec.upto simFirstSpec)

/-- 'astrolabelaw22.SimGoes', WHERE WHAT IT READS IS OF BULK AT MOST 1048576: true; the input reads as it did. -/
def simGoesUptoRow : OpenClaim := { program := "ytgalkkolbobmbaagreat", sum := "108ae9802a03db7f1de1e79fc5a3f3c0a352b959c448d9555215693147962fe8", func := "astrolabe/astrolabelaw22.SimGoes", spec := "simGoes", unfollowed := true, recurses := true, named := ["math/bits.divideError", "math/bits.overflowError"], apart := false, narrowed := true }
def SimGoesUptoSaid : Prop := simGoesUptoRow.holds Tryz.pinned (OpenSpec.upto simGoesSpec)

end Rows
end Go.Proofs.YtgalkkolbobmbaaGreat
