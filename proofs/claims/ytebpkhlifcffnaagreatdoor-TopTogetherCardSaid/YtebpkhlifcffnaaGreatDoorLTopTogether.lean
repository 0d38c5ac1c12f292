/-
  The law TopTogether: whatever the input, it returns true, and the input reads behind the call as it did. The listed package-level tables hold what the program's text lays.
-/
import Derived.Test.YtebpkhlifcffnaaGreatDoorLTopTogetherB
import Derived.Test.YtebpkhlifcffnaaGreatDoorLTopTogetherC
import Derived.Test.YtebpkhlifcffnaaGreatDoorLG1
import Derived.Test.YtebpkhlifcffnaaGreatDoorLG2
import Derived.Test.YtebpkhlifcffnaaGreatDoorLG3
namespace Go.Proofs.YtebpkhlifcffnaaGreatDoor.lawTopTogether
open Go Go.SL Go.ChangeShapes Go.WideShapes Go.ChangeAt Go.RowKit
open Go.ChangeMaps (open_string shut_string)
theorem proved : Rows.TopTogetherCardSaid :=
  Claim7.holds_tied_plain_at .later [] _ _ _ _ said (fun _ h => by cases h) QC (fun _ h => by cases h) topTogether_row_tie rfl ⟨rfl, rfl⟩ Ru rfl plain Rq
#print axioms proved
end Go.Proofs.YtebpkhlifcffnaaGreatDoor.lawTopTogether
