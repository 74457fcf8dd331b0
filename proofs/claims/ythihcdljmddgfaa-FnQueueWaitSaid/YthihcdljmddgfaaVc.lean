/- Printed by wip/tools/vc.py. -/
import Derived.Test.YthihcdljmddgfaaVc0
import Derived.Test.YthihcdljmddgfaaVc1
import Derived.Test.YthihcdljmddgfaaVc2
