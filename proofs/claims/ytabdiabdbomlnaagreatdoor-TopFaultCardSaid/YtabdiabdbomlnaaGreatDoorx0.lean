import Derived.Lib.OthersKept
set_option linter.all false
def Go.Lib.OthersKept.cW:=@Go.Lib.OthersKept.grown
def Go.Lib.OthersKept.p:=@Go.Lib.OthersKept.trans
