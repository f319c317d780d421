import Derived.Test.YthgnpmchhikchaaQ0
import Derived.Test.YthgnpmchhikchaaQ1
