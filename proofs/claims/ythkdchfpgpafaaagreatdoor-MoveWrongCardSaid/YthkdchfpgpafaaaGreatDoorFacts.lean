/- Closed facts of the program, each by itself: together they would want more memory than there is. -/
import Derived.Test.YthkdchfpgpafaaaGreatDoorStart
namespace Go.Proofs.YthkdchfpgpafaaaGreatDoor
open Go
theorem fact_stops:Tryz.prog.stops=[]:=by kernel_rfl
theorem fact_knobs:Tryz.prog.stopKnobs=[]:=by kernel_rfl
theorem fact_laid:laidOutB Tryz.prog=true:=by kernel_rfl
theorem fact_maps:mapsRowed Tryz.prog=true:=by kernel_rfl
end Go.Proofs.YthkdchfpgpafaaaGreatDoor
