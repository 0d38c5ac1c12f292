/-
  The law TopAgreed: whatever the input, it returns true, and the input reads behind the call as it did. The listed package-level tables hold what the program's text lays.
-/
import Derived.Test.YtnjfgcpmcjmddaaGreatDoorLTopAgreedB
import Derived.Test.YtnjfgcpmcjmddaaGreatDoorLTopAgreedC
import Derived.Test.YtnjfgcpmcjmddaaGreatDoorLG1
import Derived.Test.YtnjfgcpmcjmddaaGreatDoorLG2
import Derived.Test.YtnjfgcpmcjmddaaGreatDoorLG3
namespace Go.Proofs.YtnjfgcpmcjmddaaGreatDoor.lawTopAgreed
open Go Go.SL Go.ChangeShapes Go.WideShapes Go.ChangeAt Go.RowKit
open Go.ChangeMaps (open_string shut_string)
theorem proved : Rows.TopAgreedCardSaid :=
  Claim7.holds_tied_plain_at .later [] _ _ _ _ said (fun _ h => by cases h) tied1 (fun _ h => by cases h) topAgreed_row_tie rfl ⟨rfl, rfl⟩ tied2 rfl plain tied3
#print axioms proved
end Go.Proofs.YtnjfgcpmcjmddaaGreatDoor.lawTopAgreed
