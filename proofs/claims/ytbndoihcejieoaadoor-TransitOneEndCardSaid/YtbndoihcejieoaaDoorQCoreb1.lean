/-
  Plain mathematics: what these functions answer; at the end the law's pure statement. No program's memory in sight.
-/
import Derived.Test.YtbndoihcejieoaaDoorQCorew1
import Derived.Test.YtbndoihcejieoaaDoorQCorev1
import Derived.Test.YtbndoihcejieoaaDoorQCorea1
import Derived.Test.YtbndoihcejieoaaDoorQCorea2
import Derived.Test.YtbndoihcejieoaaDoorQCorea3
namespace Go.Proofs.YtbndoihcejieoaaDoor.Pure

theorem TransitOneEnd : G.customslaw35_TransitOneEnd.Pure := fun _ _ _ _ _ _ _ _ _ _ => rfl
end Go.Proofs.YtbndoihcejieoaaDoor.Pure
