/- The texts that the exact laws on packing need. -/
import Derived.Test.YthbfpgdfigilaaaMsg3
import Derived.Test.YthbfpgdfigilaaaCaps4
