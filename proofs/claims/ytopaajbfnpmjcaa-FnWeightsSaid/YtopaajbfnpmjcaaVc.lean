/- Printed by wip/tools/vc.py. -/
import Derived.Test.YtopaajbfnpmjcaaVc0
