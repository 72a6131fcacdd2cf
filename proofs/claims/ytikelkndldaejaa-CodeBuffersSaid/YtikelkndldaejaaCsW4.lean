import Derived.Test.YtikelkndldaejaaCsW3
set_option linter.all false

