/- What is printed, all. -/
import Derived.Test.YtlmkgghpaaadhaaGreatDoorPRefsx0
import Derived.Test.YtlmkgghpaaadhaaGreatDoorPRefsx1
import Derived.Test.YtlmkgghpaaadhaaGreatDoorPRefsx2
