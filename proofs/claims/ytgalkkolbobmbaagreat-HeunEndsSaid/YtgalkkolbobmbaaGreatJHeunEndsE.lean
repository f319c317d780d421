/- The facts of the row, joined. -/
import Derived.Test.YtgalkkolbobmbaaGreatJHeunEndsB
import Derived.Test.YtgalkkolbobmbaaGreatJC
import Derived.Test.YtgalkkolbobmbaaGreatJHeunEndsD
namespace Go.Proofs.YtgalkkolbobmbaaGreat.heunEnds
open Go
theorem facts : joinedFacts Tryz.prog 8 Tryz.f8 Rows.heunEndsSpec Rows.heunEndsRow = true := by
  unfold joinedFacts
  simp only [Bool.and_eq_true]
  refine ⟨⟨⟨⟨⟨⟨⟨⟨⟨⟨⟨⟨⟨⟨⟨⟨⟨⟨⟨⟨⟨⟨⟨⟨⟨⟨⟨⟨⟨⟨⟨?_, j2⟩, j3⟩, ?_⟩, ?_⟩, ?_⟩, ?_⟩, ?_⟩, ?_⟩, j10⟩, j11⟩, j12⟩, j13⟩, ?_⟩, ?_⟩, ?_⟩, ?_⟩, ?_⟩, ?_⟩, ?_⟩, ?_⟩, ?_⟩, ?_⟩, ?_⟩, ?_⟩, facts.jEnter⟩, jLifts⟩, ?_⟩, ?_⟩, ?_⟩, ?_⟩, ?_⟩ <;> kernel_rfl
end Go.Proofs.YtgalkkolbobmbaaGreat.heunEnds
