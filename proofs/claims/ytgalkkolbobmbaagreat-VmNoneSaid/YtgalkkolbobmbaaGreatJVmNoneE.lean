/- The facts of the row, joined. -/
import Derived.Test.YtgalkkolbobmbaaGreatJVmNoneB
import Derived.Test.YtgalkkolbobmbaaGreatJVmNoneC
import Derived.Test.YtgalkkolbobmbaaGreatJVmNoneD
namespace Go.Proofs.YtgalkkolbobmbaaGreat.vmNone
open Go
theorem facts : joinedFacts Tryz.prog 4 Tryz.f4 Rows.vmNoneSpec Rows.vmNoneRow = true := by
  unfold joinedFacts
  simp only [Bool.and_eq_true]
  refine ⟨⟨⟨⟨⟨⟨⟨⟨⟨⟨⟨⟨⟨⟨⟨⟨⟨⟨⟨⟨⟨⟨⟨⟨⟨⟨⟨⟨⟨⟨⟨?_, j2⟩, j3⟩, ?_⟩, ?_⟩, ?_⟩, ?_⟩, ?_⟩, ?_⟩, j10⟩, j11⟩, j12⟩, j13⟩, ?_⟩, ?_⟩, ?_⟩, ?_⟩, ?_⟩, ?_⟩, ?_⟩, ?_⟩, ?_⟩, ?_⟩, ?_⟩, ?_⟩, jEnter⟩, jLifts⟩, ?_⟩, ?_⟩, ?_⟩, ?_⟩, ?_⟩ <;> kernel_rfl
end Go.Proofs.YtgalkkolbobmbaaGreat.vmNone
