/-
  OtsApart for what the law is handed.
  Conditions: none.
-/
import Derived.Test.YtllehihgfbkgpaaC2
import Derived.Test.YtllehihgfbkgpaaVs24
namespace Go.Proofs.Ytllehihgfbkgpaa
open Go.VS
set_option linter.all false

theorem otsApart_fits : ∀ xs, FitsAll Try.prog 8 Try.f4.params.toList xs → PCall Try.prog 4 xs (.bool true) := by
  intro xs h
  rw [show Try.f4.params.toList = [22, 22, 5, 5, 4] by kernel_rfl] at h
  obtain ⟨x1, xs, rfl, h1, h⟩ := fitsAll_cons h
  obtain ⟨x2, xs, rfl, h2, h⟩ := fitsAll_cons h
  obtain ⟨x3, xs, rfl, h3, h⟩ := fitsAll_cons h
  obtain ⟨x4, xs, rfl, h4, h⟩ := fitsAll_cons h
  obtain ⟨x5, xs, rfl, h5, h⟩ := fitsAll_cons h
  obtain rfl := fitsAll_nil h
  obtain ⟨a, ha, rfl⟩ := fits_bytes (n := 16) (e := 5) (by kernel_rfl) (by kernel_rfl) h1
  obtain ⟨b, hb, rfl⟩ := fits_bytes (n := 16) (e := 5) (by kernel_rfl) (by kernel_rfl) h2
  obtain ⟨c, rfl⟩ := fits_u8 (by kernel_rfl) h3
  obtain ⟨d, rfl⟩ := fits_u8 (by kernel_rfl) h4
  obtain ⟨e, rfl⟩ := fits_bool (by kernel_rfl) h5
  exact otsApart_call a b c d e ha hb
end Go.Proofs.Ytllehihgfbkgpaa
