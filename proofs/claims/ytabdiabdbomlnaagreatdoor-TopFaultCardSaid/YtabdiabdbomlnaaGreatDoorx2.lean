import Derived.DefersIn
set_option linter.all false
def Go.CallsDIn.u:=@Go.CallsDIn.mono
