/-
  CONTRACTS: streams.
  CONTRACTS: the digest of a stream.
  Conditions: none.
-/
import Derived.Test.YtbdfghlkkdkpgaaDoorTab
import Derived.Test.YtbdfghlkkdkpgaaDoorGd
namespace Go.Proofs.YtbdfghlkkdkpgaaDoor
open Go.VS
set_option linter.all false
attribute [local irreducible] arun arunD AWp aend
section
variable {h h' : List Int} {a b c : V} {tl : List V}
end

theorem fz_map {id : Nat} {cs l : List V} (h : Pures l) : l.map (fz id cs) = l := by
  conv => rhs; rw [← List.map_id l]
  exact List.map_congr_left fun x hx => fz_pure (h x hx)

end Go.Proofs.YtbdfghlkkdkpgaaDoor
namespace Go.Proofs.YtbdfghlkkdkpgaaDoor
open Go.VS
set_option linter.all false
attribute [local irreducible] arun arunD AWp aend
theorem bytes_full {l : List UInt8} {n : Nat} (h : l.length ≤ n) : List.take n (l.map byteV) = l.map byteV := List.take_of_length_le (by simpa using h)

end Go.Proofs.YtbdfghlkkdkpgaaDoor
