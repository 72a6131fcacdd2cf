import Derived.Test.YtikelkndldaejaaCsW2
set_option linter.all false

