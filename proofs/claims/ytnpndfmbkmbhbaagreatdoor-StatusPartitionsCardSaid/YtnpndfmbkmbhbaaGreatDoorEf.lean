/-
 STEP: an extension from a deck.
 Conditions: none.
-/
import Derived.Test.YtnpndfmbkmbhbaaGreatDoorGk
import Derived.Test.YtnpndfmbkmbhbaaGreatDoorGv
set_option maxRecDepth 100000
set_option maxHeartbeats 32000000
set_option linter.all false
namespace Go.Stp
open Go.VS
section
variable {id : Nat} {cs : List V}
@[simp] theorem fz_oslC {j off n sz : Nat} : fz id cs (.osl j off n sz) = if j = id ∧ off + n * sz ≤ cs.length then .sl n ((cs.drop off).take (n * sz)) else .osl j off n sz := rfl
@[simp] theorem fz_refC {j off : Nat} : fz id cs (.ref j off) = if j = id ∧ cs ≠ [] ∧ off ≤ cs.length then .rptr (cs.drop off) else .ref j off := rfl
@[simp] theorem fz_intC {k : IntKind} {n : Int} : fz id cs (.int k n) = .int k n := rfl
@[simp] theorem fz_boolC {b : Bool} : fz id cs (.bool b) = .bool b := rfl
@[simp] theorem fz_strC {b : List UInt8} : fz id cs (.str b) = .str b := rfl
@[simp] theorem fz_slC {n : Nat} {d : List V} : fz id cs (.sl n d) = .sl n d := rfl
@[simp] theorem fz_rptrC {d : List V} : fz id cs (.rptr d) = .rptr d := rfl
@[simp] theorem fz_aggC {d : List V} : fz id cs (.agg d) = .agg d := rfl
@[simp] theorem fz_tupC {d : List V} : fz id cs (.tup d) = .tup d := rfl
@[simp] theorem fz_junkC : fz id cs .junk = .junk := rfl
@[simp] theorem fz_nilsC : fz id cs .nils = .nils := rfl
@[simp] theorem fz_valC {u : Value} : fz id cs (.val u) = .val u := rfl
@[simp] theorem fz_fnC {f : Fn} {d : List V} : fz id cs (.fn f d) = .fn f d := rfl
@[simp] theorem fz_gnsV {x : List Gn} : fz id cs (gnsV x) = gnsV x := rfl
@[simp] theorem fz_nmV {x : Nm} : fz id cs (nmV x) = nmV x := rfl
@[simp] theorem fz_strV {x : List (List UInt8)} : fz id cs (strV x) = strV x := rfl
@[simp] theorem fz_mpsV {x : List Mp} : fz id cs (mpsV x) = mpsV x := rfl
@[simp] theorem fz_ptsV {x : List Pt} : fz id cs (ptsV x) = ptsV x := rfl
@[simp] theorem fz_exsV {x : List Ex} : fz id cs (exsV x) = exsV x := rfl
@[simp] theorem fz_sbsV {x : List Sb} : fz id cs (sbsV x) = sbsV x := rfl
@[simp] theorem fz_ansV {x : List An} : fz id cs (ansV x) = ansV x := rfl
end
end Go.Stp
namespace Go.Proofs.YtnpndfmbkmbhbaaGreatDoor
open Go.Proofs.Tryz
open Go.VS Go.Stp
attribute [local irreducible] arun arunD arunU AWp aend
end Go.Proofs.YtnpndfmbkmbhbaaGreatDoor
namespace Go.Stp
open Go.VS
theorem authN_w (k : Nat) : WN (authN k) := by
 unfold WN authN authV
 by_cases h : k % 2 = 1 <;> by_cases h8 : 8 ≤ k % 16 <;> simp [h, h8]
theorem placeL_len : ∀ p ∈ placeL, p.length ≤ 20 := by decide
theorem place_wgk (k : Int) : WGk (placeG k) := by
 refine ⟨.inl rfl, ?_, by simp [placeG, WN]⟩
 show (placeL.getD k.toNat []).length ≤ 65536
 rw [List.getD_eq_getElem?_getD]
 cases h : placeL[k.toNat]? with
 | none => simp
 | some x =>
  have := placeL_len x (List.mem_of_getElem? h)
  simp only [Option.getD_some]
  omega
theorem WPt.k {p : Pt} (h : WPt p) : WPk p := by
 have hn : ∀ x ∈ p.names, WGk x := fun x hx => by
  rcases h.names with e | ⟨k, -, -, e⟩
  ·rw [e] at hx; simp at hx
  ·rw [e] at hx; simp at hx; subst hx; exact place_wgk k
 refine ⟨hn, ?_, ?_⟩
 ·rcases h.names with e | ⟨k, -, -, e⟩ <;> simp [e]
 ·rcases h.issuer with ⟨-, e, -⟩ | ⟨-, j, -, -, e⟩
  ·rw [e]; simp [WN]
  ·rw [e]; exact authN_w _
end Go.Stp
namespace Go.Proofs.YtnpndfmbkmbhbaaGreatDoor
open Go.Proofs.Tryz
open Go.VS Go.Stp
attribute [local irreducible] arun arunD arunU AWp aend
end Go.Proofs.YtnpndfmbkmbhbaaGreatDoor
namespace Go.Proofs.YtnpndfmbkmbhbaaGreatDoor
open Go.Proofs.Tryz
open Go.VS Go.Stp
attribute [local irreducible] arun arunD arunU AWp aend bits
theorem newP_call (x : Int) : GCall prog 9 [.osl 0 0 1 1] [[.int .i64 x]] ([[.int .i64 x]] ++ [[.osl 0 0 1 1, .int .i64 0]]) (.ref 1 0) := by
 refine gcall_body func9 rfl call9 ?_
 refine awp_slots (s' := (.osl 0 0 1 1 : V) :: zJ 5) rfl ?_; dsimp only [zJ]
 refine awp_rows (rows' := [.live [.int .i64 x]]) rfl ?_
 repeat' (first | refine Zq ?_ | refine Zt ?_ | refine Y8 fun K hK => ?_ | (apply hK; clear hK K) | refine Zx ?_ | clear hK K)
 simp
 exact Yr [some 0, some 1] (by simp [rowsOver, rowRen_live])
theorem nextP_call (x : Int) (n : Nat) (hx : -9223372036854775808 ≤ x ∧ x ≤ 9223372036854775807) (hn : 0 < n) (hn2 : n ≤ 1099511627776) :
  GCall prog 10 [.ref 1 0, .int .i64 n] [[.int .i64 x], [.osl 0 0 1 1, .int .i64 0]] ([[.int .i64 x], [.osl 0 0 1 1, .int .i64 1]] ++ []) (.int .i64 (dkX [x] 0 n)) := by
 refine gcall_body func10 rfl call10 ?_
 refine awp_slots (s' := (.ref 1 0 : V) :: (.int .i64 n : V) :: zJ 37) rfl ?_; dsimp only [zJ]
 refine awp_rows (rows' := [.live [.int .i64 x], .live [.osl 0 0 1 1, .int .i64 0]]) rfl ?_
 have hb := tmod_bounds (x := x) hn
 have e : dkX [x] 0 n = x.tmod n % n := by
  have : dkX [x] 0 n = (x.tmod n + n).tmod n := by simp [dkX]
  rw [this, Int.tmod_eq_emod_of_nonneg (by omega)]
  simp
 rw [e]
 repeat' (first | refine Zq ?_ | refine Zt ?_ | refine Y8 fun K hK => ?_ | (apply hK; clear hK K) | ((first | refine Zk 0 [] ?_ | refine Zk 0 [] ?_); refine Zl ?_) | (refine Yb rfl ?_ ?_ <;> intro hcnd <;> (try simp at hcnd) <;> try exact dc) | refine Zx ?_ | clear hK K)
 all_goals (simp; exact Le.mk [some 0, some 1] (by simp) (rowsRen_of (by simp) (by simp [rowsOver, rowRen_live])) (fun j hj => by match j, hj with | 0, _ => rfl | 1, _ => rfl | j + 2, hj => exact absurd (show j + 2 < 2 from hj) (by omega)))

end Go.Proofs.YtnpndfmbkmbhbaaGreatDoor
