/- What the walks of the laws on drawn threads stand on. -/
import Derived.Test.YtdkfiikbofamfaaLwTaskHead
import Derived.Test.YtdkfiikbofamfaaDrawTask4
