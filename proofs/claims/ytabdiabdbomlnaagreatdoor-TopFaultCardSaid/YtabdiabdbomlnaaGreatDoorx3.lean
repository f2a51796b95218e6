import Derived.CallsIn
set_option linter.all false
def Go.RoundIn.u:=@Go.RoundIn.mono
def Go.CallsIn.u:=@Go.CallsIn.mono
