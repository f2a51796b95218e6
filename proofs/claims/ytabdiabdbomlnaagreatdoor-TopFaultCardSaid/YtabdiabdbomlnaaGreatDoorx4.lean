import Derived.Lib.FrozenHead
set_option linter.all false
def Go.Lib.BuilderAtF.cI:=@Go.Lib.BuilderAtF.used
