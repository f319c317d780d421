/- The facts of the row, joined. -/
import Derived.Test.YtgalkkolbobmbaaGreatJVmDoneB
import Derived.Test.YtgalkkolbobmbaaGreatJC
import Derived.Test.YtgalkkolbobmbaaGreatJVmDoneD

namespace Go.Proofs.YtgalkkolbobmbaaGreat.vmDone
open Go
theorem facts : joinedFacts Tryz.prog 3 Tryz.f3 Rows.vmDoneSpec Rows.vmDoneRow = true := by
 unfold joinedFacts
 simp only [Bool.and_eq_true]
 refine ⟨⟨⟨⟨⟨⟨⟨⟨⟨⟨⟨⟨⟨⟨⟨⟨⟨⟨⟨⟨⟨⟨⟨⟨⟨⟨⟨⟨⟨⟨⟨?_, j2⟩, j3⟩, ?_⟩, ?_⟩, ?_⟩, ?_⟩, ?_⟩, ?_⟩, j10⟩, j11⟩, j12⟩, j13⟩, ?_⟩, ?_⟩, ?_⟩, ?_⟩, ?_⟩, ?_⟩, ?_⟩, ?_⟩, ?_⟩, ?_⟩, ?_⟩, ?_⟩, facts.jEnter⟩, jLifts⟩, ?_⟩, ?_⟩, ?_⟩, ?_⟩, ?_⟩ <;> kernel_rfl
end Go.Proofs.YtgalkkolbobmbaaGreat.vmDone
