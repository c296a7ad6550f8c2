/- What is printed, all. -/
import Derived.Test.YtgpbhmcmbigbdaaDoorPRefsx0
import Derived.Test.YtgpbhmcmbigbdaaDoorPRefsx1
import Derived.Test.YtgpbhmcmbigbdaaDoorPRefsx2
import Derived.Test.YtgpbhmcmbigbdaaDoorPRefsx3
import Derived.Test.YtgpbhmcmbigbdaaDoorPRefsx4
import Derived.Test.YtgpbhmcmbigbdaaDoorPRefsx5
