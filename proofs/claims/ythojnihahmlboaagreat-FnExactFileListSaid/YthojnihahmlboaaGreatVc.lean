/- Printed by wip/tools/vc.py. -/
import Derived.Test.YthojnihahmlboaaGreatVc0
import Derived.Test.YthojnihahmlboaaGreatVc1
import Derived.Test.YthojnihahmlboaaGreatVc2
import Derived.Test.YthojnihahmlboaaGreatVc3
import Derived.Test.YthojnihahmlboaaGreatVc4
