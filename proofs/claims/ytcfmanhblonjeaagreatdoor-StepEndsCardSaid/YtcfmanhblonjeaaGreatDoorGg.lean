/-
  CONTRACTS: the parts of trees.
  CONTRACTS: what trees are, in plain words: levels, roots, paths; a path leads to the root.
  CONTRACTS: trees are made and grown.
  CONTRACTS: a tree grows; its key.
  Conditions: none.
-/
import Derived.Test.YtcfmanhblonjeaaGreatDoorGe
import Derived.Test.YtcfmanhblonjeaaGreatDoorGf
import Derived.Test.YtcfmanhblonjeaaGreatDoorTab
import Derived.Test.YtcfmanhblonjeaaGreatDoorGd
namespace Go.Proofs.YtcfmanhblonjeaaGreatDoor
open Go.VS
set_option linter.all false
attribute [local irreducible] arun arunD AWp aend shaS shaT
def parS (id : List UInt8) (l i : Int) (a b : List UInt8) : List UInt8 := shaT ([78] ++ id ++ b1S l ++ wbytes i ++ a ++ b)
def idS (seed : List UInt8) : List UInt8 := shaT ([73] ++ seed)
@[simp] theorem parS_length (id : List UInt8) (l i : Int) (a b : List UInt8) : (parS id l i a b).length = 16 := by rw [parS, shaT_length]
@[simp] theorem idS_length (seed : List UInt8) : (idS seed).length = 16 := by rw [idS, shaT_length]

def keyV (h : Int) (id root : List UInt8) : V := .agg [.int .i64 h, .str id, .str root]
@[simp] theorem keyV_pure (h : Int) (id root : List UInt8) : (keyV h id root).Pure := by simp [keyV]
end Go.Proofs.YtcfmanhblonjeaaGreatDoor
namespace Go.Proofs.YtcfmanhblonjeaaGreatDoor
open Go.VS
set_option linter.all false
attribute [local irreducible] arun arunD AWp aend shaS shaT
def leafS (id seed : List UInt8) (i : Int) : List UInt8 := pubS id i (chains id seed i 35)
@[simp] theorem leafS_length (id seed : List UInt8) (i : Int) : (leafS id seed i).length = 16 := by rw [leafS, pubS, shaT_length]
def lv0 (id seed : List UInt8) (k : Nat) : List (List UInt8) := (List.range k).map fun (i : Nat) => leafS id seed (i : Int)
def nx (id : List UInt8) (l : Nat) (L : List (List UInt8)) (k : Nat) : List (List UInt8) := (List.range k).map fun (i : Nat) => parS id (l : Int) (i : Int) (L.getD (2 * i) []) (L.getD (2 * i + 1) [])
@[simp] theorem lv0_length (id seed : List UInt8) (k : Nat) : (lv0 id seed k).length = k := by simp [lv0]
@[simp] theorem nx_length (id : List UInt8) (l : Nat) (L : List (List UInt8)) (k : Nat) : (nx id l L k).length = k := by simp [nx]
theorem lv0_succ (id seed : List UInt8) (k : Nat) : lv0 id seed (k + 1) = lv0 id seed k ++ [leafS id seed (k : Int)] := by simp [lv0, List.range_succ]
theorem nx_succ (id : List UInt8) (l : Nat) (L : List (List UInt8)) (k : Nat) : nx id l L (k + 1) = nx id l L k ++ [parS id (l : Int) (k : Int) (L.getD (2 * k) []) (L.getD (2 * k + 1) [])] := by simp [nx, List.range_succ]
theorem lv0_16 (id seed : List UInt8) (k : Nat) : ∀ x ∈ lv0 id seed k, x.length = 16 := by
  intro x hx; obtain ⟨i, -, rfl⟩ := List.mem_map.1 hx; exact leafS_length _ _ _
theorem nx_16 (id : List UInt8) (l : Nat) (L : List (List UInt8)) (k : Nat) : ∀ x ∈ nx id l L k, x.length = 16 := by
  intro x hx; obtain ⟨i, -, rfl⟩ := List.mem_map.1 hx; exact parS_length _ _ _ _ _

def lvl (id seed : List UInt8) (h : Nat) : Nat → List (List UInt8)
  | 0 => lv0 id seed (2 ^ h)
  | l + 1 => nx id l (lvl id seed h l) ((lvl id seed h l).length / 2)
theorem lvl_length (id seed : List UInt8) (h : Nat) : ∀ l, l ≤ h → (lvl id seed h l).length = 2 ^ (h - l)
  | 0, _ => by simp [lvl]
  | l + 1, hl => by
    rw [lvl, nx_length, lvl_length id seed h l (by omega), show h - l = (h - (l + 1)) + 1 by omega, Nat.pow_succ]
    omega
theorem lvl_16 (id seed : List UInt8) (h : Nat) : ∀ l, ∀ x ∈ lvl id seed h l, x.length = 16
  | 0 => lv0_16 _ _ _
  | l + 1 => nx_16 _ _ _ _
def node (id seed : List UInt8) (h l i : Nat) : List UInt8 := (lvl id seed h l).getD i []
theorem node_length (id seed : List UInt8) (h l i : Nat) (hl : l ≤ h) (hi : i < 2 ^ (h - l)) : (node id seed h l i).length = 16 := by
  have := lvl_length id seed h l hl
  rw [node, List.getD_eq_getElem?_getD, List.getElem?_eq_getElem (by omega)]
  exact lvl_16 id seed h l _ (List.getElem_mem _)
def rootS (id seed : List UInt8) (h : Nat) : List UInt8 := node id seed h h 0
@[simp] theorem rootS_length (id seed : List UInt8) (h : Nat) : (rootS id seed h).length = 16 := node_length id seed h h 0 (Nat.le_refl _) (by simp)

theorem pow_le_256 {h : Nat} (hh : h ≤ 8) : 2 ^ h ≤ 256 := Nat.le_trans (Nat.pow_le_pow_right (by omega) hh) (by omega)
end Go.Proofs.YtcfmanhblonjeaaGreatDoor
namespace Go.Proofs.YtcfmanhblonjeaaGreatDoor
open Go.VS
set_option linter.all false
set_option maxRecDepth 100000
attribute [local irreducible] arun arunD AWp aend shaS shaT
def strsV (L : List (List UInt8)) : V := .sl L.length (L.map V.str)
@[simp] theorem strsV_pure (L : List (List UInt8)) : (strsV L).Pure := .sl
@[simp] theorem strsV_one (L : List (List UInt8)) : (strsV L).one = true := rfl
def lvVs (seed : List UInt8) (h k : Nat) : List V := (List.range k).map fun l => strsV (lvl (idS seed) seed h l)
@[simp] theorem lvVs_length (seed : List UInt8) (h k : Nat) : (lvVs seed h k).length = k := by simp [lvVs]
theorem lvVs_succ (seed : List UInt8) (h k : Nat) : lvVs seed h (k + 1) = lvVs seed h k ++ [strsV (lvl (idS seed) seed h k)] := by simp [lvVs, List.range_succ]
@[simp] theorem lvVs_pures (seed : List UInt8) (h k : Nat) : Pures (lvVs seed h k) := by
  intro x hx; obtain ⟨l, -, rfl⟩ := List.mem_map.1 hx; exact strsV_pure _
theorem lvVs_get (seed : List UInt8) (h k l : Nat) (hl : l < k) : (lvVs seed h k)[l]? = some (strsV (lvl (idS seed) seed h l)) := by
  simp [lvVs, hl]
theorem lvl_top (id seed : List UInt8) (h : Nat) : lvl id seed h h = [rootS id seed h] := by
  have hl := lvl_length id seed h h (Nat.le_refl _)
  rw [Nat.sub_self, Nat.pow_zero] at hl
  match hL : lvl id seed h h, hl with
  | [x], _ => simp [rootS, node, hL]
theorem shl_one (h : Nat) (hh : h ≤ 8) : IntKind.i64.wrap (2 ^ h) = ((2 ^ h : Nat) : Int) := by
  have : ∀ k, k ≤ 8 → IntKind.i64.wrap ((2 : Int) ^ k) = ((2 ^ k : Nat) : Int) := by decide +kernel
  exact this h hh

end Go.Proofs.YtcfmanhblonjeaaGreatDoor
namespace Go.Proofs.YtcfmanhblonjeaaGreatDoor
open Go.VS
set_option linter.all false
set_option maxRecDepth 100000
attribute [local irreducible] arun arunD AWp aend shaS shaT
theorem pubV_leaf (id seed : List UInt8) (i : Nat) (hi : id.length = 16) (hs : seed.length = 32) (hl : i < 256) : pubV id seed i = .tup [.str (leafS id seed i), .int .i64 0] := by
  rw [pubV, if_pos]
  · rfl
  · unfold seedE leafE; rw [if_neg (by omega), if_neg (by omega), if_neg (by omega)]

theorem getD_get {L : List (List UInt8)} {i : Nat} (h : i < L.length) : L.getD i [] = L[i] := by simp [List.getD_eq_getElem?_getD, h]
end Go.Proofs.YtcfmanhblonjeaaGreatDoor
