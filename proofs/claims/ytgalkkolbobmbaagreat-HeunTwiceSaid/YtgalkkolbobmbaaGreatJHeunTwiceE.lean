/- The facts of the row, joined. -/
import Derived.Test.YtgalkkolbobmbaaGreatJHeunTwiceB
import Derived.Test.YtgalkkolbobmbaaGreatJC
import Derived.Test.YtgalkkolbobmbaaGreatJHeunTwiceD

namespace Go.Proofs.YtgalkkolbobmbaaGreat.heunTwice
open Go
theorem facts : joinedFacts Tryz.prog 5 Tryz.f5 Rows.heunTwiceSpec Rows.heunTwiceRow = true := by
 unfold joinedFacts
 simp only [Bool.and_eq_true]
 refine ⟨⟨⟨⟨⟨⟨⟨⟨⟨⟨⟨⟨⟨⟨⟨⟨⟨⟨⟨⟨⟨⟨⟨⟨⟨⟨⟨⟨⟨⟨⟨?_, j2⟩, j3⟩, ?_⟩, ?_⟩, ?_⟩, ?_⟩, ?_⟩, ?_⟩, j10⟩, j11⟩, j12⟩, j13⟩, ?_⟩, ?_⟩, ?_⟩, ?_⟩, ?_⟩, ?_⟩, ?_⟩, ?_⟩, ?_⟩, ?_⟩, ?_⟩, ?_⟩, facts.jEnter⟩, jLifts⟩, ?_⟩, ?_⟩, ?_⟩, ?_⟩, ?_⟩ <;> kernel_rfl
end Go.Proofs.YtgalkkolbobmbaaGreat.heunTwice
