/- The printed parts that hang on nothing proved by hand later. -/
import Derived.Test.YtoakibpgmjebeaaQx0
import Derived.Test.YtoakibpgmjebeaaQx1
import Derived.Test.YtoakibpgmjebeaaQx2
import Derived.Test.YtoakibpgmjebeaaQx3
import Derived.Test.YtoakibpgmjebeaaQx4
import Derived.Test.YtoakibpgmjebeaaQx5
import Derived.Test.YtoakibpgmjebeaaQx6
import Derived.Test.YtoakibpgmjebeaaQx7
