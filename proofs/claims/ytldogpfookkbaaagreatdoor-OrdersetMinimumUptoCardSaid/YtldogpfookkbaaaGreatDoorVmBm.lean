import Derived.Test.YtldogpfookkbaaaGreatDoorVmZ
set_option linter.all false
