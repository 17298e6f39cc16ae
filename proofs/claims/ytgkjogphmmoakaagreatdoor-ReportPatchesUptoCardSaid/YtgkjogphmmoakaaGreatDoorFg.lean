/- Walks of the program's functions. -/
import Derived.Test.YtgkjogphmmoakaaGreatDoorFf
set_option linter.all false
