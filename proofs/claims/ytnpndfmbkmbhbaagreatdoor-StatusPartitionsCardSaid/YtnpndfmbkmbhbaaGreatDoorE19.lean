/-
 STATUS: lists that the reference makes.
 Conditions: none.
-/
import Derived.Test.YtnpndfmbkmbhbaaGreatDoorEe
set_option maxRecDepth 100000
set_option maxHeartbeats 32000000
set_option linter.all false
namespace Go.Proofs.YtnpndfmbkmbhbaaGreatDoor
open Go.Proofs.Tryz
open Go.VS Go.Stp Go.Der Go.Sta
attribute [local irreducible] arun arunD arunU AWp aend verE wr DU.arunD
attribute [local simp] DU.gval
theorem mk_ok {v : Bs} (hv : VOk v) (this next num : Nat) (kd : Kd) (h1 : this ≤ next) (h2 : next < 10) (hn : num < 100) (hk : ∀ b, kd = .D b → b < num) (hr : ∀ r, kd = .R r → 0 < r ∧ r < 512 ∧ r % 2 = 0) : MlOk ⟨v, this, next, num, kd, none⟩ :=
 ⟨hv, h1, h2, hn, hk, hr, fun s r w h => by cases h⟩
theorem mk_okE {v : Bs} (hv : VOk v) (this next num : Nat) (kd : Kd) (s r : Nat) (w : Bs) (h1 : this ≤ next) (h2 : next < 10) (hn : num < 100) (hk : ∀ b, kd = .D b → b < num) (hr : ∀ r, kd = .R r → 0 < r ∧ r < 512 ∧ r % 2 = 0) (he : EnOk ⟨v, this, next, num, kd, some (s, r, w)⟩ s r w) : MlOk ⟨v, this, next, num, kd, some (s, r, w)⟩ :=
 ⟨hv, h1, h2, hn, hk, hr, fun s' r' w' e => by
  obtain ⟨rfl, rfl, rfl⟩ : s = s' ∧ r = r' ∧ w = w' := by
   have e : some (s, r, w) = some (s', r', w') := e
   simpa using e
  exact he⟩
end Go.Proofs.YtnpndfmbkmbhbaaGreatDoor

