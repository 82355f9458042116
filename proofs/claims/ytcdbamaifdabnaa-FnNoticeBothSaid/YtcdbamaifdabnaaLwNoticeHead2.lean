/- The texts that the laws on drawn signals need. -/
import Derived.Test.YtcdbamaifdabnaaLwNoticeHead
import Derived.Test.YtcdbamaifdabnaaDrawSignal
