/- What the walks of the laws on drawn threads stand on. -/
import Derived.Test.YtdkfiikbofamfaaDrawTask2
import Derived.Test.YtdkfiikbofamfaaTask6
import Derived.Test.YtdkfiikbofamfaaAlive
import Derived.Deep.RegionHeld3
