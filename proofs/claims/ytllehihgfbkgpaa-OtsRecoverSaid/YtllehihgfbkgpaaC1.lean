/-
  CONTRACTS: the digits of a digest.
  Conditions: none.
-/
import Derived.Test.YtllehihgfbkgpaaTab
namespace Go.Proofs.Ytllehihgfbkgpaa
open Go.VS
set_option linter.all false
attribute [local irreducible] arun arunD AWp

/-- The digits of bytes, one after the other. -/
def nibs (l : List UInt8) : List Int := l.flatMap fun c => [(c.toNat : Int) / 16, (c.toNat : Int) % 16]
def sumBy (l : List UInt8) : Int := (l.map fun c => 30 - (c.toNat : Int) / 16 - (c.toNat : Int) % 16).sum
def digs (l : List UInt8) : List Int := nibs l ++ [sumBy l / 256, sumBy l / 16 % 16, sumBy l % 16]
def ints (l : List Int) : List V := l.map (V.int .i64)
def digR (l : List UInt8) : V := if l.length = 16 then .tup [.sl 35 (ints (digs l)), .int .i64 0] else .tup [.nils, .int .i64 7]

theorem nibs_snoc (l : List UInt8) (c : UInt8) : nibs (l ++ [c]) = nibs l ++ [(c.toNat : Int) / 16, (c.toNat : Int) % 16] := by simp [nibs]
theorem sumBy_snoc (l : List UInt8) (c : UInt8) : sumBy (l ++ [c]) = sumBy l + (30 - (c.toNat : Int) / 16 - (c.toNat : Int) % 16) := by simp [sumBy]
@[simp] theorem nibs_length (l : List UInt8) : (nibs l).length = 2 * l.length := by
  induction l with
  | nil => rfl
  | cons c l ih => simp [nibs] at ih ⊢; omega
theorem sumBy_bound : ∀ l : List UInt8, 0 ≤ sumBy l ∧ sumBy l ≤ 30 * l.length
  | [] => by simp [sumBy]
  | c :: l => by
    have h := sumBy_bound l
    have hc : c.toNat < 256 := UInt8.toNat_lt _
    simp only [sumBy, List.map_cons, List.sum_cons, List.length_cons] at h ⊢
    omega
@[simp] theorem ints_length (l : List Int) : (ints l).length = l.length := by simp [ints]
@[simp] theorem ints_append (l m : List Int) : ints (l ++ m) = ints l ++ ints m := by simp [ints]

@[simp] theorem ints_pure (l : List Int) : ∀ x ∈ ints l, x.Pure := by
  intro x hx
  obtain ⟨n, -, rfl⟩ := List.mem_map.1 hx
  exact .int

theorem digits_call (l : List UInt8) (hl : l.length ≤ 4611686018427387904) : PCall Try.prog 17 [.str l] (digR l) := by
  refine pcall_body Try.func17 rfl Try.call17 (by unfold digR; split <;> simp) ?_
  refine awp_seq fun K hK => ?_
  refine awp_region ?_
  iterate 2 (first | (refine arun_no ?_ ?_; (focus (simp; done)); dsimp only [sput, sset]) | (refine arun_go (by simp; done) fun K9 h9 => ?_; simp; refine h9 _ _ ?_; clear h9 K9; dsimp only [sput, sset]))
  refine arun_end ?_
  refine hK _ _ ?_; clear hK K
  refine awp_seq fun K hK => ?_
  refine awp_seq fun K2 hK2 => ?_
  refine awp_region ?_
  iterate 3 (first | (refine arun_no ?_ ?_; (focus (simp; done)); dsimp only [sput, sset]) | (refine arun_go (by simp; done) fun K9 h9 => ?_; simp; refine h9 _ _ ?_; clear h9 K9; dsimp only [sput, sset]))
  refine arun_end ?_
  refine hK2 _ _ ?_; clear hK2 K2
  refine awp_cond rfl (fun h => ?_) (fun h => ?_)
  · refine awp_seq fun K2 hK2 => ?_
    refine awp_region ?_
    iterate 2 (first | (refine arun_no ?_ ?_; (focus (simp; done)); dsimp only [sput, sset]) | (refine arun_go (by simp; done) fun K9 h9 => ?_; simp; refine h9 _ _ ?_; clear h9 K9; dsimp only [sput, sset]))
    refine arun_end ?_
    refine hK2 _ _ ?_; clear hK2 K2
    refine awp_ret ?_
    simp
    have : l.length ≠ 16 := by simp at h; omega
    rw [digR, if_neg this]
    exact .pure (by simp)
  · refine awp_skip ?_
    have h16 : l.length = 16 := by simp at h; omega
    refine hK _ _ ?_; clear hK K
    refine awp_seq fun K hK => ?_
    refine awp_region ?_
    iterate 1 (first | (refine arun_no ?_ ?_; (focus (simp; done)); dsimp only [sput, sset]) | (refine arun_go (by simp; done) fun K9 h9 => ?_; simp; refine h9 _ _ ?_; clear h9 K9; dsimp only [sput, sset]))
    refine arun_end ?_
    refine hK _ _ ?_; clear hK K
    refine awp_seq fun K hK => ?_
    refine awp_region ?_
    iterate 1 (first | (refine arun_no ?_ ?_; (focus (simp; done)); dsimp only [sput, sset]) | (refine arun_go (by simp; done) fun K9 h9 => ?_; simp; refine h9 _ _ ?_; clear h9 K9; dsimp only [sput, sset]))
    refine arun_end ?_
    refine hK _ _ ?_; clear hK K
    refine awp_seq fun K hK => ?_
    refine awp_seq fun K2 hK2 => ?_
    refine awp_region ?_
    iterate 4 (first | (refine arun_no ?_ ?_; (focus (simp; done)); dsimp only [sput, sset]) | (refine arun_go (by simp; done) fun K9 h9 => ?_; simp; refine h9 _ _ ?_; clear h9 K9; dsimp only [sput, sset]))
    refine arun_end ?_
    refine hK2 _ _ ?_; clear hK2 K2
    refine awp_block ?_
    refine awp_count (fun i => [.str l, .junk, .nils, .int .i64 0, .osl 1 0 (2 * i) 1, .int .i64 (sumBy (l.take i)), .junk, .junk, .junk, .junk, .junk, .junk, .junk, .junk, .osl 0 0 l.length 1, .int .i64 l.length, .int .i64 i, .junk, .junk, .junk, .junk, .junk, .junk, .junk, .junk, .junk, .junk, .junk, .junk, .junk, .junk, .junk, .junk, .junk, .junk, .junk, .junk, .junk, .junk, .junk, .junk, .junk, .junk, .junk, .junk, .junk, .junk, .junk, .junk])
      (fun i => [.live (l.map byteV), .live (ints (nibs (l.take i)))]) l.length (Le.mk [some 0, none] (by simp [sumBy]) (rowsRen_of (by simp) (by simp [rowsOver, nibs, ints])) (by simp)) fun i hi K2 hK2 => ?_
    refine awp_seq fun K3 hK3 => ?_
    refine awp_region ?_
    iterate 1 (first | (refine arun_no ?_ ?_; (focus (simp; done)); dsimp only [sput, sset]) | (refine arun_go (by simp; done) fun K9 h9 => ?_; simp; refine h9 _ _ ?_; clear h9 K9; dsimp only [sput, sset]))
    refine arun_end ?_
    refine hK3 _ _ ?_; clear hK3 K3
    refine awp_seq fun K3 hK3 => ?_
    refine awp_cond rfl (fun h => ?_) (fun h => ?_)
    · refine awp_skip ?_
      refine hK3 _ _ ?_; clear hK3 K3
      have hi : i < l.length := by simpa using h
      refine awp_seq fun K3 hK3 => ?_
      refine awp_block ?_
      refine awp_seq fun K4 hK4 => ?_
      refine awp_region ?_
      iterate 1 (first | (refine arun_no ?_ ?_; (focus (simp; done)); dsimp only [sput, sset]) | (refine arun_go (by simp; done) fun K9 h9 => ?_; simp [hi]; refine h9 _ _ ?_; clear h9 K9; dsimp only [sput, sset]))
      refine arun_go (by simp; done) fun K9 h9 => ?_
      simp [hi]
      refine ⟨fun e => by subst e; simp at hi, h9 _ _ ?_⟩
      clear h9 K9; dsimp only [sput, sset]
      iterate 1 (first | (refine arun_no ?_ ?_; (focus (simp; done)); dsimp only [sput, sset]) | (refine arun_go (by simp; done) fun K9 h9 => ?_; simp; refine h9 _ _ ?_; clear h9 K9; dsimp only [sput, sset]))
      refine arun_end ?_
      refine hK4 _ _ ?_; clear hK4 K4
      have hb : (l[i]).toNat < 256 := UInt8.toNat_lt _
      simp only [byteV]
      refine awp_seq fun K4 hK4 => ?_
      refine awp_region ?_
      iterate 8 (first | (refine arun_no ?_ ?_; (focus (simp; done)); dsimp only [sput, sset]) | (refine arun_go (by simp; done) fun K9 h9 => ?_; simp; refine h9 _ _ ?_; clear h9 K9; dsimp only [sput, sset]))
      refine arun_end ?_
      simp (disch := omega) only [and15_u8, wrap_i64]
      refine hK4 _ _ ?_; clear hK4 K4
      refine awp_seq fun K4 hK4 => ?_
      refine awp_region ?_
      have hs := sumBy_bound (l.take i)
      have htk : (l.take i).length = i := by simp; omega
      have hfull : List.take (2 * i) (ints (nibs (l.take i))) = ints (nibs (l.take i)) := List.take_of_length_le (by simp; omega)
      have ht : l.take (i + 1) = l.take i ++ [l[i]] := by simp
      have hsum : sumBy (l.take (i + 1)) = sumBy (l.take i) + (30 - ((l[i]).toNat : Int) / 16 - ((l[i]).toNat : Int) % 16) := by rw [ht, sumBy_snoc]
      have hnib : ints (nibs (l.take (i + 1))) = ints (nibs (l.take i)) ++ [.int .i64 (((l[i]).toNat : Int) / 16), .int .i64 (((l[i]).toNat : Int) % 16)] := by rw [ht, nibs_snoc]; simp [ints]
      iterate 4 (first | (refine arun_no ?_ ?_; (focus (simp; done)); dsimp only [sput, sset]) | (refine arun_go (by simp; done) fun K9 h9 => ?_; simp; refine h9 _ _ ?_; clear h9 K9; dsimp only [sput, sset]))
      refine arun_go (by simp; done) fun K9 h9 => ?_
      simp [hfull]
      refine ⟨by omega, by omega, by omega, h9 _ _ ?_⟩
      clear h9 K9; dsimp only [sput, sset]
      iterate 1 (first | (refine arun_no ?_ ?_; (focus (simp; done)); dsimp only [sput, sset]) | (refine arun_go (by simp; done) fun K9 h9 => ?_; simp; refine h9 _ _ ?_; clear h9 K9; dsimp only [sput, sset]))
      refine arun_end ?_
      refine hK4 _ _ ?_; clear hK4 K4
      refine awp_region ?_
      iterate 8 (first | (refine arun_no ?_ ?_; (focus (simp; done)); dsimp only [sput, sset]) | (refine arun_go (by simp; done) fun K9 h9 => ?_; simp; refine h9 _ _ ?_; clear h9 K9; dsimp only [sput, sset]))
      refine arun_end ?_
      simp (disch := omega) only [wrap_i64]
      refine hK3 _ _ ?_; clear hK3 K3
      refine awp_region ?_
      iterate 2 (first | (refine arun_no ?_ ?_; (focus (simp; done)); dsimp only [sput, sset]) | (refine arun_go (by simp; done) fun K9 h9 => ?_; simp; refine h9 _ _ ?_; clear h9 K9; dsimp only [sput, sset]))
      refine arun_end ?_
      simp (disch := omega) only [wrap_i64]
      refine hK2 _ _ hi (Le.mk [some 0, some 3] (by simp [hsum]; omega) (rowsRen_of (by simp) ?_) (by simp))
      simp [rowsOver, hnib]
      exact (rowRen_self (by simp; exact fun x hx => by rcases hx with hx | rfl | rfl <;> first | exact ints_pure _ _ hx | exact .int)).2 trivial
    · refine awp_exit ?_
      have hil : i = l.length := by simp at h; omega
      subst hil
      refine hK _ _ ?_; clear hK3 K3 hK2 K2 hK K
      have hs := sumBy_bound l
      have hfull : List.take (2 * l.length) (ints (nibs l)) = ints (nibs l) := List.take_of_length_le (by simp)
      simp only [List.take_length]
      refine awp_seq fun K hK => ?_
      refine awp_region ?_
      iterate 9 (first | (refine arun_no ?_ ?_; (focus (simp; done)); dsimp only [sput, sset]) | (refine arun_go (by simp; done) fun K9 h9 => ?_; simp; refine h9 _ _ ?_; clear h9 K9; dsimp only [sput, sset]))
      refine arun_go (by simp; done) fun K9 h9 => ?_
      simp [hfull]
      refine ⟨by omega, by omega, h9 _ _ ?_⟩
      clear h9 K9; dsimp only [sput, sset]
      iterate 2 (first | (refine arun_no ?_ ?_; (focus (simp; done)); dsimp only [sput, sset]) | (refine arun_go (by simp; done) fun K9 h9 => ?_; simp; refine h9 _ _ ?_; clear h9 K9; dsimp only [sput, sset]))
      refine arun_end ?_
      rw [and15_i64 (by omega) (by omega), and15_i64 (by omega) (by omega)]
      refine hK _ _ ?_; clear hK K
      refine awp_ret ?_
      simp
      rw [digR, if_pos h16]
      refine view_tup ⟨?_, .pure .int, trivial⟩
      rw [h16]
      exact view_row (by simp [digs]; simp [ints]) (by simp [digs, h16]) (ints_pure _)
end Go.Proofs.Ytllehihgfbkgpaa
