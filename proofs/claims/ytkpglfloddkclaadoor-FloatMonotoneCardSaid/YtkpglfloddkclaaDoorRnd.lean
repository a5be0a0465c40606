/-
  Walks: package dyad, round.go: Round.
-/
import Derived.Test.YtkpglfloddkclaaDoorBh
import Derived.Test.YtkpglfloddkclaaDoorRa
import Derived.Test.YtkpglfloddkclaaDoorBg
import Derived.Test.YtkpglfloddkclaaDoorBf
namespace Go.Proofs.YtkpglfloddkclaaDoor
open Go.RowKit Sp

end Go.Proofs.YtkpglfloddkclaaDoor

