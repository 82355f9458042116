/- What the walks of the laws on drawn places stand on. -/
import Derived.Test.YthjjhlgdljkkfaaPlaces5
import Derived.Deep.RegionHeld3
