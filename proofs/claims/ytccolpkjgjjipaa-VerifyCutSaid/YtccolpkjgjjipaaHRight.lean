/- The contracts of verify.Right and verify.Wrong, by name. -/
import Derived.Test.YtccolpkjgjjipaaHRight2
