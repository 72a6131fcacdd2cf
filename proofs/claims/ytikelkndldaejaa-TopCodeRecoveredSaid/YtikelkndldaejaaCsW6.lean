import Derived.Test.YtikelkndldaejaaCsW5
set_option linter.all false

