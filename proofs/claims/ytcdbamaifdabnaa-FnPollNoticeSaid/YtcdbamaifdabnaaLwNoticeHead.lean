/- The texts that the laws on drawn notification objects need. -/
import Derived.Test.YtcdbamaifdabnaaDrawNotice2
import Derived.Test.YtcdbamaifdabnaaNotice7
import Derived.Test.YtcdbamaifdabnaaAlive
