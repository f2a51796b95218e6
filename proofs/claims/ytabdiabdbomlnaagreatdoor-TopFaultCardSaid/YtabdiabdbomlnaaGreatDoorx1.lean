import Derived.RangeFuncWrites
set_option linter.all false
def Go.KeepsFrom.p:=@Go.KeepsFrom.trans
