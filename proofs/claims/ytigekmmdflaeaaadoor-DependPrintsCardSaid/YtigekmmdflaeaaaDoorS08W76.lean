import Derived.Test.YtigekmmdflaeaaaDoorS08F2
set_option linter.all false
