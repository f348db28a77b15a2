/-
  SCOPE: ScopePlain, ScopeReasonsMeet, ScopeExtends.
  Conditions: none.
-/
import Derived.Test.YtbdfghlkkdkpgaaDoorGe
import Derived.Test.YtbdfghlkkdkpgaaDoorGf
import Derived.Test.YtbdfghlkkdkpgaaDoorP1
import Derived.Test.YtbdfghlkkdkpgaaDoorP2
import Derived.Test.YtbdfghlkkdkpgaaDoorP3
import Derived.Test.YtbdfghlkkdkpgaaDoorP4
import Derived.Test.YtbdfghlkkdkpgaaDoorP7
import Derived.Test.YtbdfghlkkdkpgaaDoorP8
import Derived.Test.YtbdfghlkkdkpgaaDoorP10
import Derived.Test.YtbdfghlkkdkpgaaDoorP11
import Derived.Test.YtbdfghlkkdkpgaaDoorP12
import Derived.Test.YtbdfghlkkdkpgaaDoorP13
import Derived.Test.YtbdfghlkkdkpgaaDoorGj
import Derived.Test.YtbdfghlkkdkpgaaDoorGl
import Derived.Test.YtbdfghlkkdkpgaaDoorQ6
import Derived.Test.YtbdfghlkkdkpgaaDoorQ16
import Derived.Test.YtbdfghlkkdkpgaaDoorQ17
import Derived.Test.YtbdfghlkkdkpgaaDoorQ18
import Derived.Test.YtbdfghlkkdkpgaaDoorQ25
import Derived.Test.YtbdfghlkkdkpgaaDoorQ26
import Derived.Test.YtbdfghlkkdkpgaaDoorQ27
import Derived.Test.YtbdfghlkkdkpgaaDoorQ28
import Derived.Test.YtbdfghlkkdkpgaaDoorTab
import Derived.Test.YtbdfghlkkdkpgaaDoorGd
import Derived.Test.YtbdfghlkkdkpgaaDoorGi
import Derived.Test.YtbdfghlkkdkpgaaDoorVs31
import Derived.Test.YtbdfghlkkdkpgaaDoorVs33
import Derived.Test.YtbdfghlkkdkpgaaDoorVs34
import Derived.Test.YtbdfghlkkdkpgaaDoorVs35
import Derived.Test.YtbdfghlkkdkpgaaDoorVs36
import Derived.Test.YtbdfghlkkdkpgaaDoorVs37
set_option linter.all false
namespace Go.Stp
open Go.VS
theorem nameB_self : ∀ k, k < 16 → nameB (authN k) (authN k) = true := by decide +kernel
def cpl (n : Nm) (ca : Bool) (ps : List Pt) : Ce := { c0s 0 n ca with info := { (c0s 0 n ca).info with points := ps } }
theorem plain_cov {n : Nm} {ca : Bool} {ps : List Pt} {p : Pt} (h : nameB n n = true) (hp : p.has = false) (hr : p.reasons = 0) : (coversS (cpl n ca ps) p (lz n false false 0 0 0)).1 = 510 := by
  unfold coversS
  rw [if_neg (by simp [hp, cpl, c0s, lz, h]), if_neg (by simp [cpl, c0s, lz, h]), if_neg (by simp [lz]), if_neg (by simp [coverM, lz, hr, allM])]
  simp [coverM, lz, hr, allM]
theorem or_zero_510 : bits .or .i64 0 510 = 510 := by decide +kernel
theorem plain_mask {n : Nm} {ca : Bool} {ps : List Pt} (h : nameB n n = true) (hp : ps = [] ∨ ∃ g, ps = [⟨[g], 0, false, []⟩]) : maskS (cpl n ca ps) (lz n false false 0 0 0) = 510 := by
  rcases hp with rfl | ⟨g, rfl⟩
  · show bits .or .i64 0 (coversS (cpl n ca []) pt0 (lz n false false 0 0 0)).1 = 510
    rw [plain_cov h rfl rfl]
    exact or_zero_510
  · show bits .or .i64 0 (coversS (cpl n ca [⟨[g], 0, false, []⟩]) ⟨[g], 0, false, []⟩ (lz n false false 0 0 0)).1 = 510
    rw [plain_cov h rfl rfl]
    exact or_zero_510
theorem meet_all : ∀ k : Nat, k < 256 → (let a := maskS (c0s 0 (authN 0) false) (lz (authN 0) true false ((k : Int) * 2) 0 0); let b := maskS (c0s 0 (authN 0) false) (lz (authN 0) true false (bits .andNot .i64 510 ((k : Int) * 2)) 0 0); ((((k : Int) * 2) = 0 ∨ ((k : Int) * 2) = 510) ∧ a = 510 ∧ b = 510) ∨ (¬ ((k : Int) * 2) = 0 ∧ ¬ ((k : Int) * 2) = 510 ∧ a = (k : Int) * 2 ∧ bits .or .i64 a b = 510 ∧ bits .and .i64 a b = 0)) := by decide +kernel
end Go.Stp
namespace Go.Proofs.YtbdfghlkkdkpgaaDoor
open Go.VS Go.Stp
set_option linter.all false
set_option maxRecDepth 100000
set_option maxHeartbeats 16000000
attribute [local irreducible] arun arunD arunU AWp aend bits
end Go.Proofs.YtbdfghlkkdkpgaaDoor

