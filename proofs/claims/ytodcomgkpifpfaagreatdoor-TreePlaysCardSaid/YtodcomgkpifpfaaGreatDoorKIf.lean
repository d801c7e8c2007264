/- The law's function in the evaluator's form, its loops by themselves: printed by a program, held against the program by the kernel. -/
import Derived.Test.YtodcomgkpifpfaaGreatDoorIfn
namespace Go.AI
end Go.AI
/- Functions in the evaluator's form: printed by a program, held against the program by the kernel. -/
namespace Go.AI
def iOf:IFn:=(.mk (sO [(none,(.new 2 true [p0]))] (sO [mV 3 0,pU 4 (.build [p0] [(0,(1,(.t 3)))]),sT 1 2 4] .ret)) 5 [(.cell 2 1 true)])
theorem fOf:FA 7=some iOf:=by kernel_rfl
end Go.AI
