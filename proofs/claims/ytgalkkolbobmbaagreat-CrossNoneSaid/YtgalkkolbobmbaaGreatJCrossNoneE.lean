/- The facts of the row, joined. -/
import Derived.Test.YtgalkkolbobmbaaGreatJCrossNoneB
import Derived.Test.YtgalkkolbobmbaaGreatJC
import Derived.Test.YtgalkkolbobmbaaGreatJCrossNoneD

namespace Go.Proofs.YtgalkkolbobmbaaGreat.crossNone
open Go
theorem facts : joinedFacts Tryz.prog 15 Tryz.f15 Rows.crossNoneSpec Rows.crossNoneRow = true := by
 unfold joinedFacts
 simp only [Bool.and_eq_true]
 refine ⟨⟨⟨⟨⟨⟨⟨⟨⟨⟨⟨⟨⟨⟨⟨⟨⟨⟨⟨⟨⟨⟨⟨⟨⟨⟨⟨⟨⟨⟨⟨?_, j2⟩, j3⟩, ?_⟩, ?_⟩, ?_⟩, ?_⟩, ?_⟩, ?_⟩, j10⟩, j11⟩, j12⟩, j13⟩, ?_⟩, ?_⟩, ?_⟩, ?_⟩, ?_⟩, ?_⟩, ?_⟩, ?_⟩, ?_⟩, ?_⟩, ?_⟩, ?_⟩, facts.jEnter⟩, jLifts⟩, ?_⟩, ?_⟩, ?_⟩, ?_⟩, ?_⟩ <;> kernel_rfl
end Go.Proofs.YtgalkkolbobmbaaGreat.crossNone
