/-
 CONTRACTS: the digits of a digest.
 Conditions: none.
-/
import Derived.Test.YtnpndfmbkmbhbaaGreatDoorTab
import Derived.Test.YtnpndfmbkmbhbaaGreatDoorGd
namespace Go.Proofs.YtnpndfmbkmbhbaaGreatDoor
open Go.Proofs.Tryz
open Go.VS
set_option linter.all false
attribute [local irreducible] arun arunD AWp
def nibs (l : List UInt8) : List Int := l.flatMap fun c => [(c.toNat : Int) / 16, (c.toNat : Int) % 16]
def sumBy (l : List UInt8) : Int := (l.map fun c => 30 - (c.toNat : Int) / 16 - (c.toNat : Int) % 16).sum
def digs (l : List UInt8) : List Int := nibs l ++ [sumBy l / 256, sumBy l / 16 % 16, sumBy l % 16]
def ints (l : List Int) : List V := l.map (V.int .i64)
def digR (l : List UInt8) : V := if l.length = 16 then .tup [.sl 35 (ints (digs l)), .int .i64 0] else .tup [.nils, .int .i64 7]

theorem nibs_snoc (l : List UInt8) (c : UInt8) : nibs (l ++ [c]) = nibs l ++ [(c.toNat : Int) / 16, (c.toNat : Int) % 16] := by simp [nibs]
theorem sumBy_snoc (l : List UInt8) (c : UInt8) : sumBy (l ++ [c]) = sumBy l + (30 - (c.toNat : Int) / 16 - (c.toNat : Int) % 16) := by simp [sumBy]
@[simp] theorem nibs_length (l : List UInt8) : (nibs l).length = 2 * l.length := by
 induction l with
 | nil => rfl
 | cons c l ih => simp [nibs] at ih ⊢; omega
theorem sumBy_bound : ∀ l : List UInt8, 0 ≤ sumBy l ∧ sumBy l ≤ 30 * l.length
 | [] => by simp [sumBy]
 | c :: l => by
  have h := sumBy_bound l
  have hc : c.toNat < 256 := UInt8.toNat_lt _
  simp only [sumBy, List.map_cons, List.sum_cons, List.length_cons] at h ⊢
  omega
@[simp] theorem ints_length (l : List Int) : (ints l).length = l.length := by simp [ints]
@[simp] theorem ints_append (l m : List Int) : ints (l ++ m) = ints l ++ ints m := by simp [ints]

@[simp] theorem ints_pure (l : List Int) : ∀ x ∈ ints l, x.Pure := by
 intro x hx
 obtain ⟨n, -, rfl⟩ := List.mem_map.1 hx
 exact .int

theorem digits_call (l : List UInt8) (hl : l.length ≤ 4611686018427387904) : PCall prog 185 [.str l] (digR l) := by
 refine pcall_body func185 rfl call185 (by unfold digR; split <;> simp) ?_
 refine awp_seq fun K hK => ?_
 refine awp_region ?_
 iterate 2 (first | (refine arun_no ?_ ?_; (focus (simp; done)); dsimp only [sput, sset]) | (refine arun_go (by simp; done) fun K9 h9 => ?_; simp; refine h9 _ _ ?_; clear h9 K9; dsimp only [sput, sset]))
 refine arun_end ?_
 refine hK _ _ ?_; clear hK K
 refine awp_seq fun K hK => ?_
 refine awp_seq fun K2 hK2 => ?_
 refine awp_region ?_
 iterate 3 (first | (refine arun_no ?_ ?_; (focus (simp; done)); dsimp only [sput, sset]) | (refine arun_go (by simp; done) fun K9 h9 => ?_; simp; refine h9 _ _ ?_; clear h9 K9; dsimp only [sput, sset]))
 refine arun_end ?_
 refine hK2 _ _ ?_; clear hK2 K2
 refine awp_cond rfl (fun h => ?_) (fun h => ?_)
 ·refine awp_seq fun K2 hK2 => ?_
  refine awp_region ?_
  iterate 2 (first | (refine arun_no ?_ ?_; (focus (simp; done)); dsimp only [sput, sset]) | (refine arun_go (by simp; done) fun K9 h9 => ?_; simp; refine h9 _ _ ?_; clear h9 K9; dsimp only [sput, sset]))
  refine arun_end ?_
  refine hK2 _ _ ?_; clear hK2 K2
  refine awp_ret ?_
  simp
  have : l.length ≠ 16 := by simp at h; omega
  rw [digR, if_neg this]
  exact .pure (by simp)
 ·refine awp_skip ?_
  have h16 : l.length = 16 := by simp at h; omega
  refine hK _ _ ?_; clear hK K
  refine awp_seq fun K hK => ?_
  refine awp_region ?_
  iterate 1 (first | (refine arun_no ?_ ?_; (focus (simp; done)); dsimp only [sput, sset]) | (refine arun_go (by simp; done) fun K9 h9 => ?_; simp; refine h9 _ _ ?_; clear h9 K9; dsimp only [sput, sset]))
  refine arun_end ?_
  refine hK _ _ ?_; clear hK K
  refine awp_seq fun K hK => ?_
  refine awp_region ?_
  iterate 1 (first | (refine arun_no ?_ ?_; (focus (simp; done)); dsimp only [sput, sset]) | (refine arun_go (by simp; done) fun K9 h9 => ?_; simp; refine h9 _ _ ?_; clear h9 K9; dsimp only [sput, sset]))
  refine arun_end ?_
  refine hK _ _ ?_; clear hK K
  refine awp_seq fun K hK => ?_
  refine awp_seq fun K2 hK2 => ?_
  refine awp_region ?_
  iterate 4 (first | (refine arun_no ?_ ?_; (focus (simp; done)); dsimp only [sput, sset]) | (refine arun_go (by simp; done) fun K9 h9 => ?_; simp; refine h9 _ _ ?_; clear h9 K9; dsimp only [sput, sset]))
  refine arun_end ?_
  refine hK2 _ _ ?_; clear hK2 K2
  refine awp_block ?_
  refine awp_count (fun i => [.str l, .junk, .nils, .int .i64 0, .osl 1 0 (2 * i) 1, .int .i64 (sumBy (l.take i)), .junk, .junk, .junk, .junk, .junk, .junk, .junk, .junk, .osl 0 0 l.length 1, .int .i64 l.length, .int .i64 i, .junk, .junk, .junk, .junk, .junk, .junk, .junk, .junk, .junk, .junk, .junk, .junk, .junk, .junk, .junk, .junk, .junk, .junk, .junk, .junk, .junk, .junk, .junk, .junk, .junk, .junk, .junk, .junk, .junk, .junk, .junk, .junk])
   (fun i => [.live (l.map byteV), .live (ints (nibs (l.take i)))]) l.length (Le.mk [some 0, none] (by simp [sumBy]) (rowsRen_of (by simp) (by simp [rowsOver, nibs, ints])) (by simp)) fun i hi K2 hK2 => ?_
  refine awp_seq fun K3 hK3 => ?_
  refine awp_region ?_
  iterate 1 (first | (refine arun_no ?_ ?_; (focus (simp; done)); dsimp only [sput, sset]) | (refine arun_go (by simp; done) fun K9 h9 => ?_; simp; refine h9 _ _ ?_; clear h9 K9; dsimp only [sput, sset]))
  refine arun_end ?_
  refine hK3 _ _ ?_; clear hK3 K3
  refine awp_seq fun K3 hK3 => ?_
  refine awp_cond rfl (fun h => ?_) (fun h => ?_)
  ·refine awp_skip ?_
   refine hK3 _ _ ?_; clear hK3 K3
   have hi : i < l.length := by simpa using h
   refine awp_seq fun K3 hK3 => ?_
   refine awp_block ?_
   refine awp_seq fun K4 hK4 => ?_
   refine awp_region ?_
   iterate 1 (first | (refine arun_no ?_ ?_; (focus (simp; done)); dsimp only [sput, sset]) | (refine arun_go (by simp; done) fun K9 h9 => ?_; simp [hi]; refine h9 _ _ ?_; clear h9 K9; dsimp only [sput, sset]))
   refine arun_go (by simp; done) fun K9 h9 => ?_
   simp [hi]
   refine ⟨fun e => by subst e; simp at hi, h9 _ _ ?_⟩
   clear h9 K9; dsimp only [sput, sset]
   iterate 1 (first | (refine arun_no ?_ ?_; (focus (simp; done)); dsimp only [sput, sset]) | (refine arun_go (by simp; done) fun K9 h9 => ?_; simp; refine h9 _ _ ?_; clear h9 K9; dsimp only [sput, sset]))
   refine arun_end ?_
   refine hK4 _ _ ?_; clear hK4 K4
   have hb : (l[i]).toNat < 256 := UInt8.toNat_lt _
   simp only [byteV]
   refine awp_seq fun K4 hK4 => ?_
   refine awp_region ?_
   iterate 8 (first | (refine arun_no ?_ ?_; (focus (simp; done)); dsimp only [sput, sset]) | (refine arun_go (by simp; done) fun K9 h9 => ?_; simp; refine h9 _ _ ?_; clear h9 K9; dsimp only [sput, sset]))
   refine arun_end ?_
   simp (disch := omega) only [and15_u8, wrap_i64]
   refine hK4 _ _ ?_; clear hK4 K4
   refine awp_seq fun K4 hK4 => ?_
   refine awp_region ?_
   have hs := sumBy_bound (l.take i)
   have htk : (l.take i).length = i := by simp; omega
   have hfull : List.take (2 * i) (ints (nibs (l.take i))) = ints (nibs (l.take i)) := List.take_of_length_le (by simp; omega)
   have ht : l.take (i + 1) = l.take i ++ [l[i]] := by simp
   have hsum : sumBy (l.take (i + 1)) = sumBy (l.take i) + (30 - ((l[i]).toNat : Int) / 16 - ((l[i]).toNat : Int) % 16) := by rw [ht, sumBy_snoc]
   have hnib : ints (nibs (l.take (i + 1))) = ints (nibs (l.take i)) ++ [.int .i64 (((l[i]).toNat : Int) / 16), .int .i64 (((l[i]).toNat : Int) % 16)] := by rw [ht, nibs_snoc]; simp [ints]
   iterate 4 (first | (refine arun_no ?_ ?_; (focus (simp; done)); dsimp only [sput, sset]) | (refine arun_go (by simp; done) fun K9 h9 => ?_; simp; refine h9 _ _ ?_; clear h9 K9; dsimp only [sput, sset]))
   refine arun_go (by simp; done) fun K9 h9 => ?_
   simp [hfull]
   refine ⟨by omega, by omega, by omega, h9 _ _ ?_⟩
   clear h9 K9; dsimp only [sput, sset]
   iterate 1 (first | (refine arun_no ?_ ?_; (focus (simp; done)); dsimp only [sput, sset]) | (refine arun_go (by simp; done) fun K9 h9 => ?_; simp; refine h9 _ _ ?_; clear h9 K9; dsimp only [sput, sset]))
   refine arun_end ?_
   refine hK4 _ _ ?_; clear hK4 K4
   refine awp_region ?_
   iterate 8 (first | (refine arun_no ?_ ?_; (focus (simp; done)); dsimp only [sput, sset]) | (refine arun_go (by simp; done) fun K9 h9 => ?_; simp; refine h9 _ _ ?_; clear h9 K9; dsimp only [sput, sset]))
   refine arun_end ?_
   simp (disch := omega) only [wrap_i64]
   refine hK3 _ _ ?_; clear hK3 K3
   refine awp_region ?_
   iterate 2 (first | (refine arun_no ?_ ?_; (focus (simp; done)); dsimp only [sput, sset]) | (refine arun_go (by simp; done) fun K9 h9 => ?_; simp; refine h9 _ _ ?_; clear h9 K9; dsimp only [sput, sset]))
   refine arun_end ?_
   simp (disch := omega) only [wrap_i64]
   refine hK2 _ _ hi (Le.mk [some 0, some 3] (by simp [hsum]; omega) (rowsRen_of (by simp) ?_) (by simp))
   simp [rowsOver, hnib]
   exact (rowRen_self (by simp; exact fun x hx => by rcases hx with hx | rfl | rfl <;> first | exact ints_pure _ _ hx | exact .int)).2 trivial
  ·refine awp_exit ?_
   have hil : i = l.length := by simp at h; omega
   subst hil
   refine hK _ _ ?_; clear hK3 K3 hK2 K2 hK K
   have hs := sumBy_bound l
   have hfull : List.take (2 * l.length) (ints (nibs l)) = ints (nibs l) := List.take_of_length_le (by simp)
   simp only [List.take_length]
   refine awp_seq fun K hK => ?_
   refine awp_region ?_
   iterate 9 (first | (refine arun_no ?_ ?_; (focus (simp; done)); dsimp only [sput, sset]) | (refine arun_go (by simp; done) fun K9 h9 => ?_; simp; refine h9 _ _ ?_; clear h9 K9; dsimp only [sput, sset]))
   refine arun_go (by simp; done) fun K9 h9 => ?_
   simp [hfull]
   refine ⟨by omega, by omega, h9 _ _ ?_⟩
   clear h9 K9; dsimp only [sput, sset]
   iterate 2 (first | (refine arun_no ?_ ?_; (focus (simp; done)); dsimp only [sput, sset]) | (refine arun_go (by simp; done) fun K9 h9 => ?_; simp; refine h9 _ _ ?_; clear h9 K9; dsimp only [sput, sset]))
   refine arun_end ?_
   rw [and15_i64 (by omega) (by omega), and15_i64 (by omega) (by omega)]
   refine hK _ _ ?_; clear hK K
   refine awp_ret ?_
   simp
   rw [digR, if_pos h16]
   refine view_tup ⟨?_, .pure .int, trivial⟩
   rw [h16]
   exact view_row (by simp [digs]; simp [ints]) (by simp [digs, h16]) (ints_pure _)
end Go.Proofs.YtnpndfmbkmbhbaaGreatDoor
namespace Go.Proofs.YtnpndfmbkmbhbaaGreatDoor
open Go.Proofs.Tryz
open Go.VS
set_option linter.all false
attribute [local irreducible] arun arunD AWp

theorem digs_length (a : List UInt8) (h : a.length = 16) : (digs a).length = 35 := by simp [digs, h]

end Go.Proofs.YtnpndfmbkmbhbaaGreatDoor
namespace Go.Proofs.YtnpndfmbkmbhbaaGreatDoor
open Go.Proofs.Tryz
open Go.VS
set_option linter.all false
attribute [local irreducible] arun arunD AWp aend
theorem rdigits_call (l : List UInt8) (hl : l.length ≤ 4611686018427387904) : PCall prog 98 [.str l] (digR l) := by
 refine pcall_body func98 rfl call98 ?_ ?_
 rotate_left 1
 refine awp_slots (s' := (.str l : V) :: zJ 48) rfl ?_; dsimp only [zJ]
 repeat' (first | refine Zq ?_ | refine Zt ?_ | refine Y8 fun K hK => ?_ | (apply hK; clear hK K) | (refine Zk 2 [] ?_; refine Zl ?_) | (refine Yb rfl ?_ ?_ <;> intro hcnd <;> (try simp at hcnd) <;> try exact dc) | refine Zx ?_ | clear hK K)
 ·simp [digR, show l.length ≠ 16 by omega]
  exact .pure (by simp)
 ·have h16 : l.length = 16 := by omega
  refine awp_countU (fun i => (zN 2 (zS 2 (some (V.osl 0 0 (2 * i) 1) :: some (V.int .i64 (sumBy (l.take i))) :: some (V.int .i64 i) :: zS 42 []))))
   (fun i => [.live (ints (nibs (l.take i)))]) l.length ?_ fun i hi KL hL => ?_
  ·dsimp only [ups, zN, zS]
   exact Le.mk [none] (by simp [sumBy]) (rowsRen_of (by simp) (by simp [rowsOver, nibs, ints])) (by simp)
  ·dsimp only [ups, zN, zS]
   rcases Nat.lt_or_ge i l.length with hi | hi
   ·have hcl : (l[i]).toNat < 256 := UInt8.toNat_lt _
    have hfull : List.take (2 * i) (ints (nibs (l.take i))) = ints (nibs (l.take i)) := List.take_of_length_le (by simp; omega)
    have hs := sumBy_bound (l.take i)
    have htk : (l.take i).length = i := by simp; omega
    have ht : l.take (i + 1) = l.take i ++ [l[i]] := by simp
    have hsum : sumBy (l.take (i + 1)) = sumBy (l.take i) + (30 - ((l[i]).toNat : Int) / 16 - ((l[i]).toNat : Int) % 16) := by rw [ht, sumBy_snoc]
    have hnib : ints (nibs (l.take (i + 1))) = ints (nibs (l.take i)) ++ [.int .i64 (((l[i]).toNat : Int) / 16), .int .i64 (((l[i]).toNat : Int) % 16)] := by rw [ht, nibs_snoc]; simp [ints]
    repeat' (first | (refine Zu ?_; intro K9 h9; simp (disch := first | exact dd | fail) [hfull]; refine Zm ?_; refine Zf h9 ?_; clear h9 K9) | refine Zt ?_ | refine Y8 fun K hK => ?_ | (apply hK; clear hK K) | (refine Zk 2 [] ?_; refine Zl ?_) | (refine Yb rfl ?_ ?_ <;> intro hcnd <;> (try simp at hcnd) <;> try exact dc) | refine Zx ?_ | clear hK K)
    refine hL _ _ hi (Le.mk [some 4] (by dsimp only [ups, zN, zS]; simp [hsum]; omega) (rowsRen_of (by simp) (by
     simp [rowsOver, hnib]
     exact (rowRen_self (by simp; exact fun x hx => by rcases hx with hx | rfl | rfl <;> first | exact ints_pure _ _ hx | exact .int)).2 trivial)) (by simp))
   ·obtain rfl : i = l.length := by omega
    have hs := sumBy_bound l
    have hfull : List.take (2 * l.length) (ints (nibs l)) = ints (nibs l) := List.take_of_length_le (by simp)
    simp only [List.take_length]
    repeat' (first | (refine Zu ?_; intro K9 h9; simp (disch := first | exact dd | fail) [hfull]; refine Zm ?_; refine Zf h9 ?_; clear h9 K9) | refine Zt ?_ | refine Y8 fun K hK => ?_ | (apply hK; clear hK K) | (refine Zk 2 [] ?_; refine Zl ?_) | (refine Yb rfl ?_ ?_ <;> intro hcnd <;> (try simp at hcnd) <;> try exact dc) | refine Zx ?_ | clear hK K)
    simp
    rw [digR, if_pos h16]
    refine view_tup ⟨?_, .pure .int, trivial⟩
    rw [h16]
    exact view_row (by simp [digs]; simp [ints]) (by simp [digs, h16]) (ints_pure _)
 ·unfold digR; split <;> simp
end Go.Proofs.YtnpndfmbkmbhbaaGreatDoor
namespace Go.Proofs.YtnpndfmbkmbhbaaGreatDoor
open Go.Proofs.Tryz
open Go.VS
set_option linter.all false
attribute [local irreducible] arun arunD AWp aend
def u32s (l : List Int) : List V := l.map (V.int .u32)
@[simp] theorem u32s_length (l : List Int) : (u32s l).length = l.length := by simp [u32s]
@[simp] theorem u32s_pure (l : List Int) : ∀ x ∈ u32s l, x.Pure := by
 intro x hx
 obtain ⟨n, -, rfl⟩ := List.mem_map.1 hx
 exact .int
@[simp] theorem u32s_pures (l : List Int) : Pures (u32s l) := u32s_pure l
@[simp] theorem u32s_one (l : List Int) : ∀ x ∈ u32s l, x.one = true := by
 intro x hx
 obtain ⟨n, -, rfl⟩ := List.mem_map.1 hx
 rfl
theorem u32s_flat (l : List Int) : (V.agg (u32s l)).Flat := .agg fun x hx => by
 obtain ⟨n, -, rfl⟩ := List.mem_map.1 hx
 exact .int
def w32 (n : Int) : Int := IntKind.u32.wrap n
def rot (x : Int) (n : Nat) : Int := bits .or .u32 (x / 2 ^ n) (w32 (x * 2 ^ (32 - n)))
def kL : List Int := [1116352408, 1899447441, 3049323471, 3921009573, 961987163, 1508970993, 2453635748, 2870763221, 3624381080, 310598401, 607225278, 1426881987, 1925078388, 2162078206, 2614888103, 3248222580, 3835390401, 4022224774, 264347078, 604807628, 770255983, 1249150122, 1555081692, 1996064986, 2554220882, 2821834349, 2952996808, 3210313671, 3336571891, 3584528711, 113926993, 338241895, 666307205, 773529912, 1294757372, 1396182291, 1695183700, 1986661051, 2177026350, 2456956037, 2730485921, 2820302411, 3259730800, 3345764771, 3516065817, 3600352804, 4094571909, 275423344, 430227734, 506948616, 659060556, 883997877, 958139571, 1322822218, 1537002063, 1747873779, 1955562222, 2024104815, 2227730452, 2361852424, 2428436474, 2756734187, 3204031479, 3329325298]
def h0L : List Int := [1779033703, 3144134277, 1013904242, 2773480762, 1359893119, 2600822924, 528734635, 1541459225]

@[simp] theorem kL_length : kL.length = 64 := by simp [kL]
@[simp] theorem h0L_length : h0L.length = 8 := by simp [h0L]

theorem turn_call (x n : Int) (h0 : 0 ≤ n) (h1 : n ≤ 32) : PCall prog 248 [.int .u32 x, .int .u64 n] (.int .u32 (rot x n.toNat)) := by
 refine pcall_body func248 rfl call248 ?_ ?_
 rotate_left 1
 refine awp_slots (s' := (.int .u32 x : V) :: (.int .u64 n : V) :: zJ 11) rfl ?_; dsimp only [zJ]
 repeat' (first | refine Zq ?_ | refine Zt ?_ | refine Y8 fun K hK => ?_ | (apply hK; clear hK K) | refine Zx ?_ | clear hK K)
 ·simp [rot, w32]
  rw [show (32 - n).toNat = 32 - n.toNat by omega]
  exact .pure .int
 ·exact .int

theorem rounds_call : PCall prog 249 [] (.agg (u32s kL)) := by
 refine pcall_body func249 rfl call249 ?_ ?_
 rotate_left 1
 refine awp_slots (s' := [.junk, .junk]) rfl ?_
 repeat' (first | refine Zq ?_ | refine Zt ?_ | refine Y8 fun K hK => ?_ | (apply hK; clear hK K) | refine Zx ?_ | clear hK K)
 ·simp [u32s, kL]
  exact .pure (by simp)
 ·exact .agg (u32s_pure _)

theorem initial_call : PCall prog 241 [] (.agg (u32s h0L)) := by
 refine pcall_body func241 rfl call241 ?_ ?_
 rotate_left 1
 refine awp_slots (s' := [.junk, .junk]) rfl ?_
 repeat' (first | refine Zq ?_ | refine Zt ?_ | refine Y8 fun K hK => ?_ | (apply hK; clear hK K) | refine Zx ?_ | clear hK K)
 ·simp [u32s, h0L]
  exact .pure (by simp)
 ·exact .agg (u32s_pure _)
end Go.Proofs.YtnpndfmbkmbhbaaGreatDoor
namespace Go.Proofs.YtnpndfmbkmbhbaaGreatDoor
open Go.Proofs.Tryz
open Go.VS
set_option linter.all false
attribute [local irreducible] arun arunD AWp aend
def bat (b : List UInt8) (i : Nat) : Int := ((b.getD i 0).toNat : Int)
def uat (l : List Int) (i : Nat) : Int := l.getD i 0
theorem bat_lt (b : List UInt8) (i : Nat) : 0 ≤ bat b i ∧ bat b i < 256 := by
 have : (b.getD i 0).toNat < 256 := UInt8.toNat_lt _
 unfold bat; omega
@[simp] theorem wrap_bat (b : List UInt8) (i : Nat) : IntKind.u32.wrap (bat b i) = bat b i := wrap_u32 (bat_lt b i).1 (by have := bat_lt b i; omega)
@[simp] theorem w32_def (n : Int) : IntKind.u32.wrap n = w32 n := rfl
theorem w32_eq (n : Int) : w32 n = n % 4294967296 := by simp [w32, IntKind.wrap, IntKind.signed, IntKind.bits]
@[simp] theorem w32_bat (b : List UInt8) (i : Nat) : w32 (bat b i) = bat b i := wrap_bat b i
def w16 (b : List UInt8) (i : Nat) : Int :=
 bits .or .u32 (bits .or .u32 (bits .or .u32 (w32 (bat b (4 * i) * 16777216)) (w32 (bat b (4 * i + 1) * 65536))) (w32 (bat b (4 * i + 2) * 256))) (bat b (4 * i + 3))
def wA (b : List UInt8) : Nat → List Int
 | 0 => List.replicate 64 0
 | i + 1 => (wA b i).set i (w16 b i)
def sig0 (x : Int) : Int := bits .xor .u32 (bits .xor .u32 (rot x 7) (rot x 18)) (x / 2 ^ 3)
def sig1 (x : Int) : Int := bits .xor .u32 (bits .xor .u32 (rot x 17) (rot x 19)) (x / 2 ^ 10)
def wB (b : List UInt8) : Nat → List Int
 | 0 => wA b 16
 | i + 1 => (wB b i).set (i + 16) (w32 (w32 (w32 (uat (wB b i) i + sig0 (uat (wB b i) (i + 1))) + uat (wB b i) (i + 9)) + sig1 (uat (wB b i) (i + 14))))
@[simp] theorem wA_length (b : List UInt8) (i : Nat) : (wA b i).length = 64 := by
 induction i with
 | zero => simp [wA]
 | succ i ih => simp [wA, ih]
@[simp] theorem wB_length (b : List UInt8) (i : Nat) : (wB b i).length = 64 := by
 induction i with
 | zero => simp [wB]
 | succ i ih => simp [wB, ih]

def sumE (e : Int) : Int := bits .xor .u32 (bits .xor .u32 (rot e 6) (rot e 11)) (rot e 25)
def sumA (a : Int) : Int := bits .xor .u32 (bits .xor .u32 (rot a 2) (rot a 13)) (rot a 22)
def cho (e f g : Int) : Int := bits .xor .u32 (bits .and .u32 e f) (bits .and .u32 (bits .xor .u32 4294967295 e) g)
def maj (a b c : Int) : Int := bits .xor .u32 (bits .xor .u32 (bits .and .u32 a b) (bits .and .u32 a c)) (bits .and .u32 b c)
def tmp1 (e f g h k w : Int) : Int := w32 (w32 (w32 (w32 (h + sumE e) + cho e f g) + k) + w)
def rnd (k w : Int) : List Int → List Int
 | [a, b, c, d, e, f, g, h] => [w32 (w32 (tmp1 e f g h k w + sumA a) + maj a b c), a, b, c, w32 (d + tmp1 e f g h k w), e, f, g]
 | l => l
def vAt (h W : List Int) : Nat → List Int
 | 0 => h
 | i + 1 => rnd (uat kL i) (uat W i) (vAt h W i)
theorem len8 {l : List Int} (h : l.length = 8) : ∃ a b c d e f g i, l = [a, b, c, d, e, f, g, i] := by
 match l, h with
 | [a, b, c, d, e, f, g, i], _ => exact ⟨a, b, c, d, e, f, g, i, rfl⟩
theorem rnd_length (k w : Int) (l : List Int) : (rnd k w l).length = l.length := by
 unfold rnd; split <;> rfl
@[simp] theorem vAt_length (h W : List Int) (i : Nat) : (vAt h W i).length = h.length := by
 induction i with
 | zero => rfl
 | succ i ih => rw [vAt, rnd_length, ih]
def fin (h : List Int) (v : List Int) : Nat → List Int
 | 0 => v
 | i + 1 => (fin h v i).set i (w32 (uat (fin h v i) i + uat h i))
@[simp] theorem fin_length (h v : List Int) (i : Nat) : (fin h v i).length = v.length := by
 induction i with
 | zero => rfl
 | succ i ih => simp [fin, ih]
def blk (h : List Int) (b : List UInt8) : List Int := fin h (vAt h (wB b 48) 64) 8
@[simp] theorem blk_length (h : List Int) (b : List UInt8) : (blk h b).length = h.length := by simp [blk]

theorem u32s_get (l : List Int) (i : Nat) (h : i < l.length) : (u32s l)[i]? = some (.int .u32 (uat l i)) := by
 simp [u32s, uat, h]
@[simp] theorem u32s_getElem (l : List Int) (i : Nat) (h : i < (u32s l).length) : (u32s l)[i] = .int .u32 (uat l i) := by
 have := u32s_get l i (by simpa using h)
 rw [List.getElem?_eq_getElem h] at this
 simpa using this
theorem u32s_set (l : List Int) (i : Nat) (n : Int) : u32s (l.set i n) = (u32s l).set i (.int .u32 n) := by simp [u32s]
theorem bytes_get (b : List UInt8) (i : Nat) (h : i < b.length) : (b.map byteV)[i]? = some (.int .u8 (bat b i)) := by
 simp [h, byteV, bat]

set_option maxRecDepth 100000 in
set_option maxHeartbeats 4000000 in
theorem block_call (h : List Int) (b : List UInt8) (hh : h.length = 8) (hb : b.length = 64) : PCall prog 242 [.agg (u32s h), .sl 64 (b.map byteV)] (.agg (u32s (blk h b))) := by
 obtain ⟨B, hB, hBg⟩ : ∃ B, B = b.map byteV ∧ ∀ j, j < 64 → B[j]? = some (.int .u8 (bat b j)) := ⟨_, rfl, fun j hj => bytes_get b j (by omega)⟩
 rw [← hB]
 refine pcall_body func242 rfl call242 ?_ ?_
 rotate_left 1
 refine awp_slots (s' := (.agg (u32s h) : V) :: (.sl 64 B : V) :: zJ 215) rfl ?_; dsimp only [zJ]
 repeat' (first | (refine Zu ?_; intro K9 h9; simp (disch := first | exact dd | fail) [hh]; refine Zm ?_; refine Zf h9 ?_; clear h9 K9) | refine Zt ?_ | refine Y8 fun K hK => ?_ | (apply hK; clear hK K) | ((first | refine Zk 0 [] ?_ | refine Zk 4 [] ?_); refine Zl ?_) | (refine Yb rfl ?_ ?_ <;> intro hcnd <;> (try simp at hcnd) <;> try exact dc) | refine Zx ?_ | clear hK K)
 ·refine awp_countU (fun i => (some V.junk :: zN 5 (some (V.int .i64 i) :: zS 210 []))) (fun i => [.live (u32s h), .live (u32s (List.replicate 8 0)), .live (u32s (wA b i))]) 16 ?_ fun i hi KL hL => ?_
  ·dsimp only [ups, zN, zS]
   exact Yr [some 0, some 1, some 2] (by simp [rowsOver, wA, u32s, List.replicate])
  ·dsimp only [ups, zN, zS]
   rcases Nat.lt_or_ge i 16 with hi | hi
   ·have e0 : (4 * (i : Int)).toNat = 4 * i := by omega
    have e1 : (4 * (i : Int) + 1).toNat = 4 * i + 1 := by omega
    have e2 : (4 * (i : Int) + 2).toNat = 4 * i + 2 := by omega
    have e3 : (4 * (i : Int) + 3).toNat = 4 * i + 3 := by omega
    repeat' (first | (refine Zu ?_; intro K9 h9; simp (disch := first | exact dd | fail) [hBg, e0, e1, e2, e3]; refine Zm ?_; refine Zf h9 ?_; clear h9 K9) | refine Zt ?_ | refine Y8 fun K hK => ?_ | (apply hK; clear hK K) | ((first | refine Zk 0 [] ?_ | refine Zk 4 [] ?_); refine Zl ?_) | (refine Yb rfl ?_ ?_ <;> intro hcnd <;> (try simp at hcnd) <;> try exact dc) | refine Zx ?_ | clear hK K)
    refine hL _ _ hi ?_
    exact Yr [some 0, some 1, some 2] (by simp [rowsOver, wA, w16, ← u32s_set, rowRen_self])
   ·obtain rfl : i = 16 := by omega
    repeat' (first | refine Zq ?_ | refine Zt ?_ | refine Y8 fun K hK => ?_ | (apply hK; clear hK K) | ((first | refine Zk 0 [] ?_ | refine Zk 4 [] ?_); refine Zl ?_) | (refine Yb rfl ?_ ?_ <;> intro hcnd <;> (try simp at hcnd) <;> try exact dc) | refine Zx ?_ | clear hK K)
    refine awp_countU (fun i => (zS 2 (zN 4 (some V.junk :: some (V.int .i64 (i + 16)) :: zS 209 [])))) (fun i => [.live (u32s h), .live (u32s (List.replicate 8 0)), .live (u32s (wB b i))]) 48 ?_ fun i hi KL hL => ?_
    ·dsimp only [ups, zN, zS]
     exact Yr [some 0, some 1, some 2] (by simp [rowsOver, wB, u32s, List.replicate])
    ·dsimp only [ups, zN, zS]
     rcases Nat.lt_or_ge i 48 with hi | hi
     ·have e0 : ((i : Int) + 16 - 15).toNat = i + 1 := by omega
      have e1 : ((i : Int) + 16 - 2).toNat = i + 14 := by omega
      have e2 : ((i : Int) + 16 - 16).toNat = i := by omega
      have e3 : ((i : Int) + 16 - 7).toNat = i + 9 := by omega
      have e4 : ((i : Int) + 16).toNat = i + 16 := by omega
      repeat' (first | (refine Zu ?_; intro K9 h9; simp (disch := first | exact dd | fail) [u32s_get, e0, e1, e2, e3, e4]; refine Zm ?_; ((first | refine Ap (turn_call _ _ (by omega) (by omega)) ?_ | skip) <;> (refine Zf h9 ?_; clear h9 K9))) | refine Zt ?_ | refine Y8 fun K hK => ?_ | (apply hK; clear hK K) | ((first | refine Zk 0 [] ?_ | refine Zk 4 [] ?_); refine Zl ?_) | (refine Yb rfl ?_ ?_ <;> intro hcnd <;> (try simp at hcnd) <;> try exact dc) | refine Zx ?_ | clear hK K)
      refine hL _ _ hi ?_
      exact Yr [some 0, some 1, some 2] (by simp [rowsOver, wB, sig0, sig1, ← u32s_set, List.replicate])
     ·obtain rfl : i = 48 := by omega
      repeat' (first | (refine Zu ?_; intro K9 h9; simp (disch := first | exact dd | fail) [hh, lput_all, List.take_of_length_le]; refine Zm ?_; ((first | refine Ap rounds_call ?_ | skip) <;> ((repeat (refine And.intro (by first | omega | (simp [u32s, hh]; first | done | omega) | assumption | (intro e9; have e8 := congrArg List.length e9; first | (simp [u32s, hh] at e8; done) | ((try simp only [List.length_map, List.length_append] at e8); rw [List.length_nil] at e8; omega))) ?_)); (first | refine h9 _ _ (Ys ?_) | refine h9 _ _ (Yt ?_)); clear h9 K9))) | refine Zt ?_ | refine Y8 fun K hK => ?_ | (apply hK; clear hK K) | ((first | refine Zk 0 [] ?_ | refine Zk 4 [] ?_); refine Zl ?_) | (refine Yb rfl ?_ ?_ <;> intro hcnd <;> (try simp at hcnd) <;> try exact dc) | refine Zx ?_ | clear hK K)
      refine awp_countU (fun i => (zS 2 (zN 4 (zS 4 (zN 2 (some (V.int .i64 i) :: zS 204 []))))))
       (fun i => [.live (u32s h), .live (u32s (List.replicate 8 0)), .live (u32s (wB b 48)), .live (u32s kL), .live (u32s (vAt h (wB b 48) i))]) 64 ?_ fun i hi KL hL => ?_
      ·dsimp only [ups, zN, zS]
       exact Yr [some 0, some 1, some 2, some 3, some 4] (by simp [rowsOver, vAt, u32s, List.replicate])
      ·dsimp only [ups, zN, zS]
       rcases Nat.lt_or_ge i 64 with hi | hi
       ·obtain ⟨v0, v1, v2, v3, v4, v5, v6, v7, hv⟩ := len8 (l := vAt h (wB b 48) i) (by simp [hh])
        have hv' : vAt h (wB b 48) (i + 1) = rnd (uat kL i) (uat (wB b 48) i) [v0, v1, v2, v3, v4, v5, v6, v7] := by rw [vAt, hv]
        rw [hv]
        rw [show u32s [v0, v1, v2, v3, v4, v5, v6, v7] = [.int .u32 v0, .int .u32 v1, .int .u32 v2, .int .u32 v3, .int .u32 v4, .int .u32 v5, .int .u32 v6, .int .u32 v7] from rfl]
        repeat' (first | (refine Zu ?_; intro K9 h9; simp (disch := first | exact dd | fail) [u32s_get, show (if IntKind.u32.signed = true then -1 else IntKind.u32.max) = 4294967295 from rfl]; refine Zm ?_; ((first | refine Ap (turn_call _ _ (by omega) (by omega)) ?_ | skip) <;> (refine Zf h9 ?_; clear h9 K9))) | refine Zt ?_ | refine Y8 fun K hK => ?_ | (apply hK; clear hK K) | ((first | refine Zk 0 [] ?_ | refine Zk 4 [] ?_); refine Zl ?_) | (refine Yb rfl ?_ ?_ <;> intro hcnd <;> (try simp at hcnd) <;> try exact dc) | refine Zx ?_ | clear hK K)
        refine hL _ _ hi ?_
        exact Yr [some 0, some 1, some 2, some 3, some 4] (by simp [rowsOver, hv', rnd, tmp1, sumE, sumA, cho, maj, List.replicate, u32s])
       ·obtain rfl : i = 64 := by omega
        generalize hV : vAt h (wB b 48) 64 = v
        have hv : v.length = 8 := by rw [← hV]; simp [hh]
        repeat' (first | (refine Zu ?_; intro K9 h9; simp (disch := first | exact dd | fail) [hh, hv, List.take_of_length_le]; refine Zm ?_; refine Zf h9 ?_; clear h9 K9) | refine Zt ?_ | refine Y8 fun K hK => ?_ | (apply hK; clear hK K) | ((first | refine Zk 0 [] ?_ | refine Zk 4 [] ?_); refine Zl ?_) | (refine Yb rfl ?_ ?_ <;> intro hcnd <;> (try simp at hcnd) <;> try exact dc) | refine Zx ?_ | clear hK K)
        refine awp_countU (fun i => (zS 2 (zN 3 (zS 6 (some (V.ref 2 0) :: zS 192 (some (V.int .i64 i) :: zS 12 []))))))
         (fun i => [.live (u32s h), .live (u32s (List.replicate 8 0)), .live (u32s (fin h v i))]) 8 ?_ fun i hi KL hL => ?_
        ·dsimp only [ups, zN, zS]
         exact Yr [some 0, some 1, some 4] (by simp [rowsOver, fin, u32s, List.replicate])
        ·dsimp only [ups, zN, zS]
         rcases Nat.lt_or_ge i 8 with hi | hi
         ·repeat' (first | (refine Zu ?_; intro K9 h9; simp (disch := first | exact dd | fail) [u32s_get, hh, hv]; refine Zm ?_; ((repeat (refine And.intro (by first | omega | (simp [u32s, hh, hv]; first | done | omega) | assumption | (intro e9; have e8 := congrArg List.length e9; first | (simp [u32s, hh, hv] at e8; done) | ((try simp only [List.length_map, List.length_append] at e8); rw [List.length_nil] at e8; omega))) ?_)); (first | refine h9 _ _ (Ys ?_) | refine h9 _ _ (Yt ?_)); clear h9 K9)) | refine Zt ?_ | refine Y8 fun K hK => ?_ | (apply hK; clear hK K) | ((first | refine Zk 0 [] ?_ | refine Zk 4 [] ?_); refine Zl ?_) | (refine Yb rfl ?_ ?_ <;> intro hcnd <;> (try simp at hcnd) <;> try exact dc) | refine Zx ?_ | clear hK K)
          refine hL _ _ hi ?_
          exact Yr [some 0, some 1, some 2] (by simp [rowsOver, fin, List.replicate, ← u32s_set])
         ·obtain rfl : i = 8 := by omega
          repeat' (first | (refine Zu ?_; intro K9 h9; simp (disch := first | exact dd | fail) [hh, hv, List.take_of_length_le, lput_all]; refine Zm ?_; ((repeat (refine And.intro (by first | omega | (simp [u32s, hh, hv]; first | done | omega) | assumption | (intro e9; have e8 := congrArg List.length e9; first | (simp [u32s, hh, hv] at e8; done) | ((try simp only [List.length_map, List.length_append] at e8); rw [List.length_nil] at e8; omega))) ?_)); (first | refine h9 _ _ (Ys ?_) | refine h9 _ _ (Yt ?_)); clear h9 K9)) | refine Zt ?_ | refine Y8 fun K hK => ?_ | (apply hK; clear hK K) | ((first | refine Zk 0 [] ?_ | refine Zk 4 [] ?_); refine Zl ?_) | (refine Yb rfl ?_ ?_ <;> intro hcnd <;> (try simp at hcnd) <;> try exact dc) | refine Zx ?_ | clear hK K)
          simp [hh, hv, List.take_of_length_le]
          refine ⟨fun e => by have := congrArg List.length e; simp [hv] at this, ?_⟩
          rw [blk, hV]
          exact .pure (.agg (u32s_pure _))
 ·exact .agg (u32s_pure _)
end Go.Proofs.YtnpndfmbkmbhbaaGreatDoor
namespace Go.Proofs.YtnpndfmbkmbhbaaGreatDoor
open Go.Proofs.Tryz
open Go.VS
set_option linter.all false
attribute [local irreducible] arun arunD AWp aend
theorem bat_eq (b : List UInt8) (i : Nat) (h : i < b.length) : (((b[i]'h).toNat : Nat) : Int) = bat b i := by simp [bat, h]
theorem w32_assoc (t u m : Int) : w32 (t + w32 (u + m)) = w32 (w32 (t + u) + m) := by simp only [w32_eq]; omega
theorem w32_comm (t u : Int) : w32 (t + u) = w32 (u + t) := by rw [Int.add_comm]
theorem uat_get (l : List Int) (i : Nat) (h : i < l.length) : l[i] = uat l i := by simp [uat, h]

theorem fin8 (a0 a1 a2 a3 a4 a5 a6 a7 v0 v1 v2 v3 v4 v5 v6 v7 : Int) : fin [a0, a1, a2, a3, a4, a5, a6, a7] [v0, v1, v2, v3, v4, v5, v6, v7] 8 =
  [w32 (v0 + a0), w32 (v1 + a1), w32 (v2 + a2), w32 (v3 + a3), w32 (v4 + a4), w32 (v5 + a5), w32 (v6 + a6), w32 (v7 + a7)] := by
 simp [fin, uat]

set_option maxRecDepth 100000 in
set_option maxHeartbeats 4000000 in
theorem rround_call (h : List Int) (b : List UInt8) (hh : h.length = 8) (hb : b.length = 64) : PCall prog 139 [.sl 8 (u32s h), .str b] (.sl 8 (u32s (blk h b))) := by
 refine pcall_body func139 rfl call139 ?_ ?_
 rotate_left 1
 refine awp_slots (s' := (.sl 8 (u32s h) : V) :: (.str b : V) :: zJ 264) rfl ?_; dsimp only [zJ]
 repeat' (first | refine Zq ?_ | refine Zt ?_ | refine Y8 fun K hK => ?_ | (apply hK; clear hK K) | ((first | refine Zk 0 [] ?_ | refine Zk 1 [] ?_ | refine Zk 4 [] ?_); refine Zl ?_) | (refine Yb rfl ?_ ?_ <;> intro hcnd <;> (try simp at hcnd) <;> try exact dc) | refine Zx ?_ | clear hK K)
 ·refine awp_countU (fun i => (zN 4 (some V.junk :: zN 2 (some (V.int .i64 i) :: zS 258 [])))) (fun i => [.live (u32s kL), .live (u32s (wA b i))]) 16 ?_ fun i hi KL hL => ?_
  ·dsimp only [ups, zN, zS]
   exact Yr [some 0, some 1] (by simp [rowsOver, wA, u32s, List.replicate, kL])
  ·dsimp only [ups, zN, zS]
   rcases Nat.lt_or_ge i 16 with hi | hi
   ·have e0 : (4 * (i : Int)).toNat = 4 * i := by omega
    have e1 : (4 * (i : Int) + 1).toNat = 4 * i + 1 := by omega
    have e2 : (4 * (i : Int) + 2).toNat = 4 * i + 2 := by omega
    have e3 : (4 * (i : Int) + 3).toNat = 4 * i + 3 := by omega
    repeat' (first | (refine Zu ?_; intro K9 h9; simp (disch := first | exact dd | fail) [hb, bat_eq, e0, e1, e2, e3]; refine Zm ?_; refine Zf h9 ?_; clear h9 K9) | refine Zt ?_ | refine Y8 fun K hK => ?_ | (apply hK; clear hK K) | ((first | refine Zk 0 [] ?_ | refine Zk 1 [] ?_ | refine Zk 4 [] ?_); refine Zl ?_) | (refine Yb rfl ?_ ?_ <;> intro hcnd <;> (try simp at hcnd) <;> try exact dc) | refine Zx ?_ | clear hK K)
    refine hL _ _ hi ?_
    exact Yr [some 0, some 1] (by simp [rowsOver, wA, w16, ← u32s_set])
   ·obtain rfl : i = 16 := by omega
    repeat' (first | refine Zq ?_ | refine Zt ?_ | refine Y8 fun K hK => ?_ | (apply hK; clear hK K) | ((first | refine Zk 0 [] ?_ | refine Zk 1 [] ?_ | refine Zk 4 [] ?_); refine Zl ?_) | (refine Yb rfl ?_ ?_ <;> intro hcnd <;> (try simp at hcnd) <;> try exact dc) | refine Zx ?_ | clear hK K)
    refine awp_countU (fun i => (none :: some V.junk :: zN 2 (some V.junk :: zN 2 (some V.junk :: some (V.int .i64 (i + 16)) :: zS 257 [])))) (fun i => [.live (u32s kL), .live (u32s (wB b i))]) 48 ?_ fun i hi KL hL => ?_
    ·dsimp only [ups, zN, zS]
     exact Yr [some 0, some 1] (by simp [rowsOver, wB])
    ·dsimp only [ups, zN, zS]
     rcases Nat.lt_or_ge i 48 with hi | hi
     ·have e0 : ((i : Int) + 16 - 15).toNat = i + 1 := by omega
      have e1 : ((i : Int) + 16 - 2).toNat = i + 14 := by omega
      have e2 : ((i : Int) + 16 - 16).toNat = i := by omega
      have e3 : ((i : Int) + 16 - 7).toNat = i + 9 := by omega
      have e4 : ((i : Int) + 16).toNat = i + 16 := by omega
      repeat' (first | (refine Zu ?_; intro K9 h9; simp (disch := first | exact dd | fail) [u32s_get, e0, e1, e2, e3, e4]; refine Zm ?_; refine Zf h9 ?_; clear h9 K9) | refine Zt ?_ | refine Y8 fun K hK => ?_ | (apply hK; clear hK K) | ((first | refine Zk 0 [] ?_ | refine Zk 1 [] ?_ | refine Zk 4 [] ?_); refine Zl ?_) | (refine Yb rfl ?_ ?_ <;> intro hcnd <;> (try simp at hcnd) <;> try exact dc) | refine Zx ?_ | clear hK K)
      refine hL _ _ hi ?_
      exact Yr [some 0, some 1] (by simp [rowsOver, wB, sig0, sig1, rot, ← u32s_set, List.replicate])
     ·obtain rfl : i = 48 := by omega
      obtain ⟨a0, a1, a2, a3, a4, a5, a6, a7, rfl⟩ := len8 hh
      rw [show u32s [a0, a1, a2, a3, a4, a5, a6, a7] = [.int .u32 a0, .int .u32 a1, .int .u32 a2, .int .u32 a3, .int .u32 a4, .int .u32 a5, .int .u32 a6, .int .u32 a7] from rfl]
      repeat' (first | refine Zq ?_ | refine Zt ?_ | refine Y8 fun K hK => ?_ | (apply hK; clear hK K) | ((first | refine Zk 0 [] ?_ | refine Zk 1 [] ?_ | refine Zk 4 [] ?_); refine Zl ?_) | (refine Yb rfl ?_ ?_ <;> intro hcnd <;> (try simp at hcnd) <;> try exact dc) | refine Zx ?_ | clear hK K)
      refine awp_countU (fun i => (none :: some V.junk :: zN 2 (some V.junk :: zN 2 (zS 6 (some (V.int .u32 (uat (vAt [a0, a1, a2, a3, a4, a5, a6, a7] (wB b 48) i) 0)) :: some (V.int .u32 (uat (vAt [a0, a1, a2, a3, a4, a5, a6, a7] (wB b 48) i) 1)) :: some (V.int .u32 (uat (vAt [a0, a1, a2, a3, a4, a5, a6, a7] (wB b 48) i) 2)) :: some (V.int .u32 (uat (vAt [a0, a1, a2, a3, a4, a5, a6, a7] (wB b 48) i) 3)) :: some (V.int .u32 (uat (vAt [a0, a1, a2, a3, a4, a5, a6, a7] (wB b 48) i) 4)) :: some (V.int .u32 (uat (vAt [a0, a1, a2, a3, a4, a5, a6, a7] (wB b 48) i) 5)) :: some (V.int .u32 (uat (vAt [a0, a1, a2, a3, a4, a5, a6, a7] (wB b 48) i) 6)) :: some (V.int .u32 (uat (vAt [a0, a1, a2, a3, a4, a5, a6, a7] (wB b 48) i) 7)) :: some (V.int .i64 i) :: zS 244 [])))))
       (fun i => [.live (u32s kL), .live (u32s (wB b 48))]) 64 ?_ fun i hi KL hL => ?_
      ·dsimp only [ups, zN, zS]
       exact Le.mk [some 0, some 1] (by simp [vAt, uat]) (rowsRen_of (by simp) (by simp [rowsOver])) (by simp)
      ·dsimp only [ups, zN, zS]
       rcases Nat.lt_or_ge i 64 with hi | hi
       ·obtain ⟨v0, v1, v2, v3, v4, v5, v6, v7, hv⟩ := len8 (l := vAt [a0, a1, a2, a3, a4, a5, a6, a7] (wB b 48) i) (by simp)
        have hv' : vAt [a0, a1, a2, a3, a4, a5, a6, a7] (wB b 48) (i + 1) = rnd (uat kL i) (uat (wB b 48) i) [v0, v1, v2, v3, v4, v5, v6, v7] := by rw [vAt, hv]
        rw [hv]
        simp only [uat, List.getD_cons_zero, List.getD_cons_succ]
        repeat' (first | (refine Zu ?_; intro K9 h9; simp (disch := first | exact dd | fail) [u32s_get, show (if IntKind.u32.signed = true then -1 else IntKind.u32.max) = 4294967295 from rfl]; refine Zm ?_; refine Zf h9 ?_; clear h9 K9) | refine Zt ?_ | refine Y8 fun K hK => ?_ | (apply hK; clear hK K) | ((first | refine Zk 0 [] ?_ | refine Zk 1 [] ?_ | refine Zk 4 [] ?_); refine Zl ?_) | (refine Yb rfl ?_ ?_ <;> intro hcnd <;> (try simp at hcnd) <;> try exact dc) | refine Zx ?_ | clear hK K)
        refine hL _ _ hi ?_
        exact Le.mk [some 0, some 1] (by dsimp only [ups, zN, zS]; rw [hv']; simp [rnd, tmp1, sumE, sumA, cho, maj, rot, uat, w32_assoc]) (rowsRen_of (by simp) (by simp [rowsOver])) (by simp)
       ·obtain rfl : i = 64 := by omega
        obtain ⟨v0, v1, v2, v3, v4, v5, v6, v7, hv⟩ := len8 (l := vAt [a0, a1, a2, a3, a4, a5, a6, a7] (wB b 48) 64) (by simp)
        rw [hv]
        simp only [uat, List.getD_cons_zero, List.getD_cons_succ]
        repeat' (first | refine Zq ?_ | refine Zt ?_ | refine Y8 fun K hK => ?_ | (apply hK; clear hK K) | ((first | refine Zk 0 [] ?_ | refine Zk 1 [] ?_ | refine Zk 4 [] ?_); refine Zl ?_) | (refine Yb rfl ?_ ?_ <;> intro hcnd <;> (try simp at hcnd) <;> try exact dc) | refine Zx ?_ | clear hK K)
        simp [blk, hv, fin8, w32_comm]
        exact view_row (by simp [u32s]) (by simp) (u32s_pure _)
 ·exact .sl
end Go.Proofs.YtnpndfmbkmbhbaaGreatDoor
namespace Go.Proofs.YtnpndfmbkmbhbaaGreatDoor
open Go.Proofs.Tryz
open Go.VS
set_option linter.all false
attribute [local irreducible] arun arunD AWp aend
def comp (h : List Int) (l : List UInt8) : Nat → List Int
 | 0 => h
 | k + 1 => blk (comp h l k) ((l.drop (64 * k)).take 64)
@[simp] theorem comp_length (h : List Int) (l : List UInt8) (k : Nat) : (comp h l k).length = h.length := by
 induction k with
 | zero => rfl
 | succ k ih => simp [comp, ih]
theorem comp_append (h : List Int) (l m : List UInt8) : ∀ (k : Nat), 64 * k ≤ l.length → comp h (l ++ m) k = comp h l k
 | 0, _ => rfl
 | k + 1, hk => by
  rw [comp, comp, comp_append h l m k (by omega), List.drop_append_of_le_length (by omega), List.take_append_of_le_length (by simp; omega)]
theorem comp_add (h : List Int) (l : List UInt8) (j : Nat) : ∀ (k : Nat), comp (comp h l j) (l.drop (64 * j)) k = comp h l (j + k)
 | 0 => rfl
 | k + 1 => by
  rw [comp, comp_add h l j k, ← Nat.add_assoc, comp, List.drop_drop, show 64 * j + 64 * k = 64 * (j + k) by omega]

def stR (h : List Int) (r : List UInt8) (n : Int) : List V := u32s h ++ [.sl r.length (r.map byteV), .int .i64 n]
def z8 : List Int := [0, 0, 0, 0, 0, 0, 0, 0]
@[simp] theorem z8_length : z8.length = 8 := by simp [z8]
def hOf (l : List UInt8) : List Int := comp h0L l (l.length / 64)
def rOf (l : List UInt8) : List UInt8 := l.drop (64 * (l.length / 64))
def stOf (l : List UInt8) : List V := stR (if l = [] then z8 else hOf l) (rOf l) l.length
@[simp] theorem hOf_length (l : List UInt8) : (hOf l).length = 8 := by simp [hOf]
@[simp] theorem stR_pures (h : List Int) (r : List UInt8) (n : Int) : Pures (stR h r n) := by simp [stR]
@[simp] theorem stOf_pures (l : List UInt8) : Pures (stOf l) := by simp [stOf]
theorem rOf_length (l : List UInt8) : (rOf l).length = l.length % 64 := by simp [rOf]; omega

theorem hOf_append (l m : List UInt8) : hOf (l ++ m) = comp (hOf l) (rOf l ++ m) ((rOf l ++ m).length / 64) := by
 have h1 : (l ++ m).length / 64 = l.length / 64 + (rOf l ++ m).length / 64 := by simp [rOf]; omega
 have h2 : (l ++ m).drop (64 * (l.length / 64)) = rOf l ++ m := by rw [List.drop_append_of_le_length (by omega)]; rfl
 rw [hOf, h1, ← comp_add, h2, comp_append h0L l m _ (by omega)]
 rfl
theorem rOf_append (l m : List UInt8) : rOf (l ++ m) = (rOf l ++ m).drop (64 * ((rOf l ++ m).length / 64)) := by
 have h1 : (l ++ m).length / 64 = l.length / 64 + (rOf l ++ m).length / 64 := by simp [rOf]; omega
 have h2 : (l ++ m).drop (64 * (l.length / 64)) = rOf l ++ m := by rw [List.drop_append_of_le_length (by omega)]; rfl
 rw [rOf, h1, Nat.mul_add, ← List.drop_drop, h2]

section
variable {h h' : List Int} {a b c : V} {tl : List V}
theorem st_take (hh : h.length = 8) : (u32s h ++ tl).take 8 = u32s h := by
 rw [List.take_append_of_le_length (by simp [hh]), List.take_of_length_le (by simp [hh])]
theorem st_get8 (hh : h.length = 8) : (u32s h ++ (a :: tl))[8]? = some a := by
 rw [List.getElem?_append_right (by simp [hh])]; simp [hh]
theorem st_get9 (hh : h.length = 8) : (u32s h ++ (a :: b :: tl))[9]? = some b := by
 rw [List.getElem?_append_right (by simp [hh])]; simp [hh]
theorem st_set8 (hh : h.length = 8) : (u32s h ++ (a :: tl)).set 8 c = u32s h ++ (c :: tl) := by
 rw [List.set_append_right _ _ (by simp [hh])]; simp [hh]
theorem st_set9 (hh : h.length = 8) : (u32s h ++ (a :: b :: tl)).set 9 c = u32s h ++ (a :: c :: tl) := by
 rw [List.set_append_right _ _ (by simp [hh])]; simp [hh]
theorem st_put (hh : h.length = 8) (hh' : h'.length = 8) : lput (u32s h ++ tl) 0 (u32s h') = u32s h' ++ tl := by
 rw [lput_eq (by simp [hh, hh'])]
 simp [hh', List.drop_append, hh]
end

theorem fz_map {id : Nat} {cs l : List V} (h : Pures l) : l.map (fz id cs) = l := by
 conv => rhs; rw [← List.map_id l]
 exact List.map_congr_left fun x hx => fz_pure (h x hx)

theorem start_call : NCall prog 231 [] (stOf []) := by
 refine ncall_body func231 rfl call231 ?_
 refine awp_slots (s' := zJ 3) rfl ?_; dsimp only [zJ]
 refine awp_seq fun K hK => ?_
 refine awp_region ?_
 iterate 1 (first | (refine arun_no ?_ ?_; (focus (simp; done)); dsimp only [sput, sset]) | (refine arun_go (by simp; done) fun K9 h9 => ?_; simp; refine h9 _ _ ?_; clear h9 K9; dsimp only [sput, sset]))
 refine arun_end ?_
 refine hK _ _ ?_; clear hK K
 refine awp_seq fun K hK => ?_
 refine awp_region ?_
 iterate 3 (first | (refine arun_no ?_ ?_; (focus (simp; done)); dsimp only [sput, sset]) | (refine arun_go (by simp; done) fun K9 h9 => ?_; simp; refine h9 _ _ ?_; clear h9 K9; dsimp only [sput, sset]))
 refine arun_end ?_
 refine hK _ _ ?_; clear hK K
 refine awp_nz ?_
 refine awp_ret ?_
 refine ret_go ?_
 simp [nzRow, nz, stOf, stR, rOf, z8, u32s]

set_option maxRecDepth 100000 in
set_option maxHeartbeats 4000000 in
theorem write_call (l b : List UInt8) (hb : l.length + b.length ≤ 1099511627776) : MCall prog 232 [.ref 0 0, .str b] (stOf l) (stOf (l ++ b)) (.tup []) := by
 refine mcall_body func232 rfl call232 ?_ ?_ ?_
 rotate_left 2
 refine awp_slots (s' := (.ref 0 0 : V) :: (.str b : V) :: zJ 54) rfl ?_; dsimp only [zJ]
 have hr := rOf_length l
 by_cases hbn : b = []
 ·subst hbn
  repeat' (first | refine Zr ?_ | refine Zt ?_ | refine Y8 fun K hK => ?_ | (apply hK; clear hK K) | (refine Zk 0 [] ?_; refine Zl ?_) | (refine Yb rfl ?_ ?_ <;> intro hcnd <;> (try simp at hcnd) <;> try exact dc) | refine Zo ?_ | refine Zx ?_ | clear hK K)
  ·simp
   exact .inl ⟨[], rfl⟩
 obtain ⟨al, hal⟩ : ∃ al, al = rOf l ++ b := ⟨_, rfl⟩
 have hall : al.length = (rOf l).length + b.length := by simp [hal]
 have hnn : 0 < b.length := List.length_pos_iff.2 hbn
 have htk : List.take (rOf l).length (List.map byteV (rOf l)) = List.map byteV (rOf l) := List.take_of_length_le (by simp)
 by_cases hl : l = []
 ·have e0 : h0L = hOf l := by subst hl; rfl
  rw [show stOf l = u32s z8 ++ [.sl (rOf l).length ((rOf l).map byteV), .int .i64 l.length] by rw [stOf, if_pos hl]; rfl]
  repeat' (first | ((first | refine Zu ?_ | (refine Zv ?_ ?_; (focus (simp [st_get9, st_get8, st_take, st_set8, st_set9, st_put, htk]; done)))); intro K9 h9; simp (disch := first | exact dd | fail) [st_get9, st_get8, st_take, st_set8, st_set9, st_put, htk]; refine Zm ?_; ((first | refine Ap initial_call ?_ | skip) <;> ((repeat (refine And.intro (by first | omega | (simp [u32s]; first | done | omega) | assumption | (intro e9; have e8 := congrArg List.length e9; first | (simp [u32s] at e8; done) | ((try simp only [List.length_map, List.length_append] at e8); rw [List.length_nil] at e8; omega))) ?_)); (first | refine h9 _ _ (Ys ?_) | refine h9 _ _ (Yt ?_)); clear h9 K9))) | refine Zt ?_ | refine Y8 fun K hK => ?_ | (apply hK; clear hK K) | (refine Zk 0 [] ?_; refine Zl ?_) | (refine Yb rfl ?_ ?_ <;> intro hcnd <;> (try simp at hcnd) <;> try exact dc) | (refine Zn ?_ ?_; (focus (simp [st_get9, st_get8, st_take, st_set8, st_set9, st_put, htk]; done)); refine Zs ?_) | refine Zx ?_ | clear hK K)
  rw [e0]
  refine awp_countU (fun k => (none :: some V.junk :: zN 2 (some (V.osl 1 (64 * k) (al.length - 64 * k) 1) :: zS 51 [])))
   (fun k => [.live (u32s (comp (hOf l) al k) ++ [.sl (rOf l).length ((rOf l).map byteV), .int .i64 (l.length + b.length)]), .live (al.map byteV)]) (al.length / 64) ?_ fun k hk KL hL => ?_
  ·dsimp only [ups, zN, zS]
   exact Le.mk [some 0, some 2] (by simp [hall]) (rowsRen_of (by simp) (by simp [rowsOver, comp, hal])) (by simp)
  ·dsimp only [ups, zN, zS]
   rcases Nat.lt_or_ge k (al.length / 64) with hk | hk
   ·repeat' (first | ((first | refine Zu ?_ | (refine Zv ?_ ?_; (focus (simp [st_take, st_put]; done)))); intro K9 h9; simp (disch := first | exact dd | fail) [st_take, st_put]; refine Zm ?_; ((first | refine acall_view (block_call (comp (hOf l) al k) ((al.drop (64 * k)).take 64) (by simp) (by simp; omega)) ⟨.pure (.agg (u32s_pure _)), view_bytes rfl (by omega) rfl, trivial⟩ (u32s_flat _) ?_ | skip) <;> ((repeat (refine And.intro (by first | omega | (simp [u32s]; first | done | omega) | assumption | (intro e9; have e8 := congrArg List.length e9; first | (simp [u32s] at e8; done) | ((try simp only [List.length_map, List.length_append] at e8); rw [List.length_nil] at e8; omega))) ?_)); (first | refine h9 _ _ (Ys ?_) | refine h9 _ _ (Yt ?_)); clear h9 K9))) | refine Zt ?_ | refine Y8 fun K hK => ?_ | (apply hK; clear hK K) | (refine Zk 0 [] ?_; refine Zl ?_) | (refine Yb rfl ?_ ?_ <;> intro hcnd <;> (try simp at hcnd) <;> try exact dc) | (refine Zn ?_ ?_; (focus (simp [st_take, st_put]; done)); refine Zs ?_) | refine Zx ?_ | clear hK K)
    refine hL _ _ hk ?_
    exact Yr [some 0, some 1] (by simp [rowsOver, comp])
   ·obtain rfl : k = al.length / 64 := by omega
    have hro : rOf (l ++ b) = al.drop (64 * (al.length / 64)) := by rw [rOf_append, hal]
    have hrl : al.length - 64 * (al.length / 64) = (rOf (l ++ b)).length := by rw [hro]; simp
    have hho : comp (hOf l) al (al.length / 64) = hOf (l ++ b) := by rw [hOf_append, hal]
    rw [hho, hrl]
    have hcs : List.take (rOf (l ++ b)).length (List.drop (64 * (al.length / 64)) (List.map byteV al)) = List.map byteV (rOf (l ++ b)) := by
     rw [← hrl, ← List.map_drop, ← List.map_take, hro, List.take_of_length_le (by simp)]
    have hle : (rOf (l ++ b)).length ≤ al.length := by omega
    repeat' (first | ((first | refine Zu ?_ | (refine Zv ?_ ?_; (focus (simp [st_take, st_put, st_set8, hcs]; done)))); intro K9 h9; simp (disch := first | exact dd | fail) [st_take, st_put, st_set8, hcs]; refine Zm ?_; refine Zf h9 ?_; clear h9 K9) | refine Zt ?_ | refine Y8 fun K hK => ?_ | (apply hK; clear hK K) | (refine Zk 0 [] ?_; refine Zl ?_) | (refine Yb rfl ?_ ?_ <;> intro hcnd <;> (try simp at hcnd) <;> try exact dc) | (refine Zn ?_ ?_; (focus (simp [st_take, st_put, st_set8, hcs]; done)); refine Zs ?_) | refine Zx ?_ | clear hK K)
    simp
    refine mend_fz 1 (cs := List.map byteV (rOf (l ++ b))) (by simp) (by simp) ?_
    simp [stOf, stR, hbn, fz, fz_map (u32s_pures _), List.take_of_length_le]
 ·rw [show stOf l = u32s (hOf l) ++ [.sl (rOf l).length ((rOf l).map byteV), .int .i64 l.length] by rw [stOf, if_neg hl]; rfl]
  repeat' (first | ((first | refine Zu ?_ | (refine Zv ?_ ?_; (focus (simp [st_get9, st_get8, st_take, st_set8, st_set9, st_put, htk]; done)))); intro K9 h9; simp (disch := first | exact dd | fail) [st_get9, st_get8, st_take, st_set8, st_set9, st_put, htk]; refine Zm ?_; ((first | refine Ap initial_call ?_ | skip) <;> ((repeat (refine And.intro (by first | omega | (simp [u32s]; first | done | omega) | assumption | (intro e9; have e8 := congrArg List.length e9; first | (simp [u32s] at e8; done) | ((try simp only [List.length_map, List.length_append] at e8); rw [List.length_nil] at e8; omega))) ?_)); (first | refine h9 _ _ (Ys ?_) | refine h9 _ _ (Yt ?_)); clear h9 K9))) | refine Zt ?_ | refine Y8 fun K hK => ?_ | (apply hK; clear hK K) | (refine Zk 0 [] ?_; refine Zl ?_) | (refine Yb rfl ?_ ?_ <;> intro hcnd <;> (try simp at hcnd) <;> try exact dc) | (refine Zn ?_ ?_; (focus (simp [st_get9, st_get8, st_take, st_set8, st_set9, st_put, htk]; done)); refine Zs ?_) | refine Zx ?_ | clear hK K)
  refine awp_countU (fun k => (none :: some V.junk :: zN 2 (some (V.osl 1 (64 * k) (al.length - 64 * k) 1) :: zS 51 [])))
   (fun k => [.live (u32s (comp (hOf l) al k) ++ [.sl (rOf l).length ((rOf l).map byteV), .int .i64 (l.length + b.length)]), .live (al.map byteV)]) (al.length / 64) ?_ fun k hk KL hL => ?_
  ·dsimp only [ups, zN, zS]
   exact Le.mk [some 0, some 2] (by simp [hall]) (rowsRen_of (by simp) (by simp [rowsOver, comp, hal])) (by simp)
  ·dsimp only [ups, zN, zS]
   rcases Nat.lt_or_ge k (al.length / 64) with hk | hk
   ·repeat' (first | ((first | refine Zu ?_ | (refine Zv ?_ ?_; (focus (simp [st_take, st_put]; done)))); intro K9 h9; simp (disch := first | exact dd | fail) [st_take, st_put]; refine Zm ?_; ((first | refine acall_view (block_call (comp (hOf l) al k) ((al.drop (64 * k)).take 64) (by simp) (by simp; omega)) ⟨.pure (.agg (u32s_pure _)), view_bytes rfl (by omega) rfl, trivial⟩ (u32s_flat _) ?_ | skip) <;> ((repeat (refine And.intro (by first | omega | (simp [u32s]; first | done | omega) | assumption | (intro e9; have e8 := congrArg List.length e9; first | (simp [u32s] at e8; done) | ((try simp only [List.length_map, List.length_append] at e8); rw [List.length_nil] at e8; omega))) ?_)); (first | refine h9 _ _ (Ys ?_) | refine h9 _ _ (Yt ?_)); clear h9 K9))) | refine Zt ?_ | refine Y8 fun K hK => ?_ | (apply hK; clear hK K) | (refine Zk 0 [] ?_; refine Zl ?_) | (refine Yb rfl ?_ ?_ <;> intro hcnd <;> (try simp at hcnd) <;> try exact dc) | (refine Zn ?_ ?_; (focus (simp [st_take, st_put]; done)); refine Zs ?_) | refine Zx ?_ | clear hK K)
    refine hL _ _ hk ?_
    exact Yr [some 0, some 1] (by simp [rowsOver, comp])
   ·obtain rfl : k = al.length / 64 := by omega
    have hro : rOf (l ++ b) = al.drop (64 * (al.length / 64)) := by rw [rOf_append, hal]
    have hrl : al.length - 64 * (al.length / 64) = (rOf (l ++ b)).length := by rw [hro]; simp
    have hho : comp (hOf l) al (al.length / 64) = hOf (l ++ b) := by rw [hOf_append, hal]
    rw [hho, hrl]
    have hcs : List.take (rOf (l ++ b)).length (List.drop (64 * (al.length / 64)) (List.map byteV al)) = List.map byteV (rOf (l ++ b)) := by
     rw [← hrl, ← List.map_drop, ← List.map_take, hro, List.take_of_length_le (by simp)]
    have hle : (rOf (l ++ b)).length ≤ al.length := by omega
    repeat' (first | ((first | refine Zu ?_ | (refine Zv ?_ ?_; (focus (simp [st_take, st_put, st_set8, hcs]; done)))); intro K9 h9; simp (disch := first | exact dd | fail) [st_take, st_put, st_set8, hcs]; refine Zm ?_; refine Zf h9 ?_; clear h9 K9) | refine Zt ?_ | refine Y8 fun K hK => ?_ | (apply hK; clear hK K) | (refine Zk 0 [] ?_; refine Zl ?_) | (refine Yb rfl ?_ ?_ <;> intro hcnd <;> (try simp at hcnd) <;> try exact dc) | (refine Zn ?_ ?_; (focus (simp [st_take, st_put, st_set8, hcs]; done)); refine Zs ?_) | refine Zx ?_ | clear hK K)
    simp
    refine mend_fz 1 (cs := List.map byteV (rOf (l ++ b))) (by simp) (by simp) ?_
    simp [stOf, stR, hbn, fz, fz_map (u32s_pures _), List.take_of_length_le]
 ·exact .tup (by simp)
 ·simp
end Go.Proofs.YtnpndfmbkmbhbaaGreatDoor
namespace Go.Proofs.YtnpndfmbkmbhbaaGreatDoor
open Go.Proofs.Tryz
open Go.VS
set_option linter.all false
attribute [local irreducible] arun arunD AWp aend
def be8 (n j : Nat) : UInt8 := UInt8.ofNat (8 * n / 2 ^ (8 * (7 - j)))
def padZ (n : Nat) : Nat := (119 - n % 64) % 64
def padS (n : Nat) : List UInt8 := 128 :: List.replicate (padZ n) 0 ++ (List.range 8).map (be8 n)
def wbytes (x : Int) : List UInt8 := [UInt8.ofNat (x / 16777216 % 256).toNat, UInt8.ofNat (x / 65536 % 256).toNat, UInt8.ofNat (x / 256 % 256).toNat, UInt8.ofNat (x % 256).toNat]
def outB (h : List Int) : List UInt8 := h.flatMap wbytes
def shaS (l : List UInt8) : List UInt8 := outB (hOf (l ++ padS l.length))
theorem padS_length (n : Nat) : (padS n).length = 9 + padZ n := by simp [padS]; omega
theorem pad_dvd (n : Nat) : (n + (padS n).length) % 64 = 0 := by rw [padS_length, padZ]; omega

def tz (l : List UInt8) (i : Nat) : List UInt8 := rOf l ++ 128 :: List.replicate i 0
def te (l : List UInt8) (j : Nat) : List UInt8 := tz l (padZ l.length) ++ (List.range j).map (be8 l.length)
@[simp] theorem tz_length (l : List UInt8) (i : Nat) : (tz l i).length = (rOf l).length + 1 + i := by simp [tz]; omega
@[simp] theorem te_length (l : List UInt8) (j : Nat) : (te l j).length = (rOf l).length + 1 + padZ l.length + j := by simp [te]
theorem tz_succ (l : List UInt8) (i : Nat) : (tz l (i + 1)).map byteV = (tz l i).map byteV ++ [.int .u8 0] := by
 have : tz l (i + 1) = tz l i ++ [0] := by rw [tz, tz, List.replicate_succ', List.append_assoc]; rfl
 rw [this, List.map_append]; rfl
theorem te_succ (l : List UInt8) (j : Nat) : (te l (j + 1)).map byteV = (te l j).map byteV ++ [byteV (be8 l.length j)] := by simp [te, List.range_succ]
theorem te_zero (l : List UInt8) : te l 0 = tz l (padZ l.length) := by simp [te]
theorem te_pad (l : List UInt8) : te l 8 = rOf l ++ padS l.length := by simp [te, tz, padS]
theorem bytes_full {l : List UInt8} {n : Nat} (h : l.length ≤ n) : List.take n (l.map byteV) = l.map byteV := List.take_of_length_le (by simpa using h)

theorem byteV_int {n : Int} (h0 : 0 ≤ n) (h1 : n < 256) : V.int .u8 n = byteV (UInt8.ofNat n.toNat) := by
 have : (UInt8.ofNat n.toNat).toNat = n.toNat := by simp; omega
 simp only [byteV, this, V.int.injEq, true_and]
 omega
theorem wrap_u8' (n : Int) : IntKind.u8.wrap n = n % 256 := by simp [IntKind.wrap, IntKind.signed, IntKind.bits]

theorem u8_int (n : Int) : V.int .u8 (IntKind.u8.wrap n) = byteV (UInt8.ofNat (n % 256).toNat) := by
 rw [wrap_u8', byteV_int (by omega) (by omega)]
def ob (v : List Int) (i : Nat) : List UInt8 := (v.take i).flatMap wbytes
theorem ob_succ (v : List Int) (i : Nat) (h : i < v.length) : ob v (i + 1) = ob v i ++ wbytes (uat v i) := by
 rw [ob, List.take_succ_eq_append_getElem h, List.flatMap_append, uat_get v i h]; simp [ob]
theorem ob_length (v : List Int) : ∀ i, i ≤ v.length → (ob v i).length = 4 * i
 | 0, _ => rfl
 | i + 1, h => by rw [ob_succ v i (by omega), List.length_append, ob_length v i (by omega)]; simp [wbytes]; omega
theorem ob_all (v : List Int) (i : Nat) (h : v.length ≤ i) : ob v i = outB v := by rw [ob, List.take_of_length_le h, outB]

theorem be8_int (n j : Nat) (hj : j < 8) : V.int .u8 (IntKind.u8.wrap ((n : Int) * 8 / 2 ^ (8 * (7 - (j : Int))).toNat)) = byteV (be8 n j) := by
 have e : (8 * (7 - (j : Int))).toNat = 8 * (7 - j) := by omega
 have h2 : (n : Int) * 8 / 2 ^ (8 * (7 - j)) = ((8 * n / 2 ^ (8 * (7 - j)) : Nat) : Int) := by
  rw [Int.natCast_ediv]; simp [Int.mul_comm]
 rw [e, wrap_u8', h2, be8, byteV]
 simp

set_option maxRecDepth 100000 in
set_option maxHeartbeats 4000000 in
theorem sum_call (l : List UInt8) (hl : l.length ≤ 1099511627776) (x : V) (hx : x = .rptr (stOf l) ∨ x = .nilp ∧ l = []) : PCall prog 233 [x] (.str (shaS l)) := by
 refine pcall_body func233 rfl call233 ?_ ?_
 rotate_left 1
 refine awp_slots (s' := (x : V) :: zJ 88) rfl ?_; dsimp only [zJ]
 have hr := rOf_length l
 have hst : l ≠ [] → stOf l = u32s (hOf l) ++ [.sl (rOf l).length ((rOf l).map byteV), .int .i64 l.length] := fun h => by rw [stOf, if_neg h]; rfl
 iterate 22 (first | ((first | refine Zu ?_ | (refine Zv ?_ ?_; (focus (simp [lput_all]; done)))); intro K9 h9; simp (disch := first | exact dd | fail) [lput_all]; refine Zm ?_; ((first | refine Ap initial_call ?_ | skip) <;> ((repeat (refine And.intro (by first | omega | (simp [u32s]; first | done | omega) | assumption | (intro e9; have e8 := congrArg List.length e9; first | (simp [u32s] at e8; done) | ((try simp only [List.length_map, List.length_append] at e8); rw [List.length_nil] at e8; omega))) ?_)); (first | refine h9 _ _ (Ys ?_) | refine h9 _ _ (Yt ?_)); clear h9 K9))) | refine Zt ?_ | refine Y8 fun K hK => ?_ | (apply hK; clear hK K) | (refine Zk 0 [] ?_; refine Zl ?_) | (refine Yb rfl ?_ ?_ <;> intro hcnd <;> (try simp at hcnd) <;> try exact dc) | (refine Zn ?_ ?_; (focus (simp [lput_all]; done)); refine Zs ?_) | refine Zx ?_ | (clear hK K; first | (apply hK; clear hK K) | (clear hK K; first | (apply hK; clear hK K) | (clear hK K; first | (apply hK; clear hK K) | (clear hK K; apply hK; clear hK K)))))
 refine awp_seq' fun K hK hL => ?_
 have htk : List.take (rOf l).length (List.map byteV (rOf l)) = List.map byteV (rOf l) := List.take_of_length_le (by simp)
 have main : K ((V.junk :: V.junk :: (V.str []) :: (V.ref 0 0) :: (V.osl 1 0 (rOf l).length 1) :: (V.int .i64 l.length) :: V.junk :: V.junk :: V.junk :: V.junk :: V.junk :: V.junk :: V.junk :: V.junk :: V.junk :: V.junk :: V.junk :: V.junk :: V.junk :: V.junk :: V.junk :: V.junk :: V.junk :: V.junk :: V.junk :: V.junk :: V.junk :: V.junk :: V.junk :: V.junk :: V.junk :: V.junk :: V.junk :: V.junk :: V.junk :: V.junk :: V.junk :: V.junk :: V.junk :: V.junk :: V.junk :: V.junk :: V.junk :: V.junk :: V.junk :: V.junk :: V.junk :: V.junk :: V.junk :: V.junk :: V.junk :: V.junk :: V.junk :: V.junk :: V.junk :: V.junk :: V.junk :: V.junk :: V.junk :: V.junk :: V.junk :: V.junk :: V.junk :: V.junk :: V.junk :: V.junk :: V.junk :: V.junk :: V.junk :: V.junk :: V.junk :: V.junk :: V.junk :: V.junk :: V.junk :: V.junk :: V.junk :: V.junk :: V.junk :: V.junk :: V.junk :: V.junk :: V.junk :: V.junk :: V.junk :: V.junk :: V.junk :: V.junk :: V.junk :: [])) [.live (u32s (hOf l)), .live ((rOf l).map byteV)] := by
  refine hK _ _ ?_
  clear hK hL K
  repeat' (first | ((first | refine Zu ?_ | (refine Zv ?_ ?_; (focus (simp [htk]; done)))); intro K9 h9; simp (disch := first | exact dd | fail) [htk]; refine Zm ?_; refine Zf h9 ?_; clear h9 K9) | refine Zt ?_ | refine Y8 fun K hK => ?_ | (apply hK; clear hK K) | (refine Zk 0 [] ?_; refine Zl ?_) | (refine Yb rfl ?_ ?_ <;> intro hcnd <;> (try simp at hcnd) <;> try exact dc) | (refine Zn ?_ ?_; (focus (simp [htk]; done)); refine Zs ?_) | refine Zx ?_ | clear hK K)
  have hz : padZ l.length = (119 - l.length % 64) % 64 := rfl
  refine awp_countU (fun i => (some V.junk :: none :: some V.junk :: none :: some (V.osl 1 0 ((rOf l).length + 1 + i) 1) :: none :: zS 2 (none :: zS 80 [])))
   (fun i => [.live (u32s (hOf l)), .live ((tz l i).map byteV)]) (padZ l.length) ?_ fun i hi KL hL => ?_
  ·dsimp only [ups, zN, zS]
   exact Yr [some 0, some 3] (by simp [rowsOver, tz, byteV])
  dsimp only [ups, zN, zS]
  rcases Nat.lt_or_ge i (padZ l.length) with hi | hi
  ·repeat' (first | ((first | refine Zu ?_ | (refine Zv ?_ ?_; (focus (simp [bytes_full]; done)))); intro K9 h9; simp (disch := first | exact dd | fail) [bytes_full]; refine Zm ?_; refine Zf h9 ?_; clear h9 K9) | refine Zt ?_ | refine Y8 fun K hK => ?_ | (apply hK; clear hK K) | (refine Zk 0 [] ?_; refine Zl ?_) | (refine Yb rfl ?_ ?_ <;> intro hcnd <;> (try simp at hcnd) <;> try exact dc) | (refine Zn ?_ ?_; (focus (simp [bytes_full]; done)); refine Zs ?_) | refine Zx ?_ | clear hK K)
   refine hL _ _ hi ?_
   exact Yr [some 0, some 3] (by simp [rowsOver, tz_succ])
  obtain rfl : i = padZ l.length := by omega
  repeat' (first | refine Zr ?_ | refine Zt ?_ | refine Y8 fun K hK => ?_ | (apply hK; clear hK K) | (refine Zk 0 [] ?_; refine Zl ?_) | (refine Yb rfl ?_ ?_ <;> intro hcnd <;> (try simp at hcnd) <;> try exact dc) | refine Zo ?_ | refine Zx ?_ | clear hK K)
  rw [← te_zero]
  refine awp_countU (fun j => (some V.junk :: none :: some V.junk :: none :: some (V.osl 1 0 ((rOf l).length + 1 + padZ l.length + j) 1) :: none :: some (V.int .i64 (7 - j)) :: some V.junk :: none :: zS 80 []))
   (fun j => [.live (u32s (hOf l)), .live ((te l j).map byteV)]) 8 ?_ fun j hj KL hL => ?_
  ·dsimp only [ups, zN, zS]
   exact Yr [some 0, some 1] (by simp [rowsOver])
  dsimp only [ups, zN, zS]
  rcases Nat.lt_or_ge j 8 with hj | hj
  ·repeat' (first | ((first | refine Zu ?_ | (refine Zv ?_ ?_; (focus (simp [bytes_full]; done)))); intro K9 h9; simp (disch := first | exact dd | fail) [bytes_full]; refine Zm ?_; refine Zf h9 ?_; clear h9 K9) | refine Zt ?_ | refine Y8 fun K hK => ?_ | (apply hK; clear hK K) | (refine Zk 0 [] ?_; refine Zl ?_) | (refine Yb rfl ?_ ?_ <;> intro hcnd <;> (try simp at hcnd) <;> try exact dc) | (refine Zn ?_ ?_; (focus (simp [bytes_full]; done)); refine Zs ?_) | refine Zx ?_ | clear hK K)
   refine hL _ _ hj ?_
   rw [be8_int l.length j hj]
   exact Yr [some 0, some 3] (by simp [rowsOver, te_succ])
  obtain rfl : j = 8 := by omega
  repeat' (first | refine Zr ?_ | refine Zt ?_ | refine Y8 fun K hK => ?_ | (apply hK; clear hK K) | (refine Zk 0 [] ?_; refine Zl ?_) | (refine Yb rfl ?_ ?_ <;> intro hcnd <;> (try simp at hcnd) <;> try exact dc) | refine Zo ?_ | refine Zx ?_ | clear hK K)
  obtain ⟨T, hT⟩ : ∃ T, T = te l 8 := ⟨_, rfl⟩
  have hTl : T.length = (rOf l).length + 1 + padZ l.length + 8 := by simp [hT]
  rw [← hT, ← hTl]
  refine awp_countU (fun k => (some V.junk :: none :: some V.junk :: none :: some (V.osl 1 (64 * k) (T.length - 64 * k) 1) :: zS 3 (none :: zS 80 [])))
   (fun k => [.live (u32s (comp (hOf l) T k)), .live (T.map byteV)]) (T.length / 64) ?_ fun k hk KL hL => ?_
  ·dsimp only [ups, zN, zS]
   exact Yr [some 0, some 1] (by simp [rowsOver, comp])
  dsimp only [ups, zN, zS]
  rcases Nat.lt_or_ge k (T.length / 64) with hk | hk
  ·repeat' (first | ((first | refine Zu ?_ | (refine Zv ?_ ?_; (focus (simp [List.take_of_length_le, lput_all]; done)))); intro K9 h9; simp (disch := first | exact dd | fail) [List.take_of_length_le, lput_all]; refine Zm ?_; ((first | refine acall_view (block_call (comp (hOf l) T k) ((T.drop (64 * k)).take 64) (by simp) (by simp; omega)) ⟨.pure (.agg (u32s_pure _)), view_bytes rfl (by omega) rfl, trivial⟩ (u32s_flat _) ?_ | skip) <;> ((repeat (refine And.intro (by first | omega | (simp [u32s]; first | done | omega) | assumption | (intro e9; have e8 := congrArg List.length e9; first | (simp [u32s] at e8; done) | ((try simp only [List.length_map, List.length_append] at e8); rw [List.length_nil] at e8; omega))) ?_)); (first | refine h9 _ _ (Ys ?_) | refine h9 _ _ (Yt ?_)); clear h9 K9))) | refine Zt ?_ | refine Y8 fun K hK => ?_ | (apply hK; clear hK K) | (refine Zk 0 [] ?_; refine Zl ?_) | (refine Yb rfl ?_ ?_ <;> intro hcnd <;> (try simp at hcnd) <;> try exact dc) | (refine Zn ?_ ?_; (focus (simp [List.take_of_length_le, lput_all]; done)); refine Zs ?_) | refine Zx ?_ | clear hK K)
   refine hL _ _ hk ?_
   exact Yr [some 0, some 1] (by simp [rowsOver, comp])
  obtain rfl : k = T.length / 64 := by omega
  have hfin : comp (hOf l) T (T.length / 64) = hOf (l ++ padS l.length) := by rw [hOf_append, hT, te_pad]
  rw [hfin]
  repeat' (first | ((first | refine Zu ?_ | (refine Zv ?_ ?_; (focus (simp [List.take_of_length_le]; done)))); intro K9 h9; simp (disch := first | exact dd | fail) [List.take_of_length_le]; refine Zm ?_; refine Zf h9 ?_; clear h9 K9) | refine Zt ?_ | refine Y8 fun K hK => ?_ | (apply hK; clear hK K) | (refine Zk 0 [] ?_; refine Zl ?_) | (refine Yb rfl ?_ ?_ <;> intro hcnd <;> (try simp at hcnd) <;> try exact dc) | (refine Zn ?_ ?_; (focus (simp [List.take_of_length_le]; done)); refine Zs ?_) | refine Zx ?_ | clear hK K)
  obtain ⟨v, hv⟩ : ∃ v, v = hOf (l ++ padS l.length) := ⟨_, rfl⟩
  have hvl : v.length = 8 := by simp [hv]
  rw [← hv]
  clear hfin
  refine awp_countU (fun i => (some V.junk :: none :: zS 5 (some (V.osl 0 0 (4 * i) 1) :: none :: zS 59 (none :: some (V.int .i64 i) :: zS 19 []))))
   (fun i => [.live ((ob v i).map byteV)]) 8 ?_ fun i hi KL hL => ?_
  ·dsimp only [ups, zN, zS]
   exact Yr [none] (by simp [rowsOver, ob])
  dsimp only [ups, zN, zS]
  rcases Nat.lt_or_ge i 8 with hi | hi
  ·have hol := ob_length v i (by omega)
   repeat' (first | ((first | refine Zu ?_ | (refine Zv ?_ ?_; (focus (simp [hvl, bytes_full, hol]; done)))); intro K9 h9; simp (disch := first | exact dd | fail) [hvl, bytes_full, hol]; refine Zm ?_; ((repeat (refine And.intro (by first | omega | (simp [hol]; first | done | omega) | assumption | (intro e9; have e8 := congrArg List.length e9; first | (simp [hol] at e8; done) | ((try simp only [List.length_map, List.length_append] at e8); rw [List.length_nil] at e8; omega))) ?_)); (first | refine h9 _ _ (Ys ?_) | refine h9 _ _ (Yt ?_)); clear h9 K9)) | refine Zt ?_ | refine Y8 fun K hK => ?_ | (apply hK; clear hK K) | (refine Zk 0 [] ?_; refine Zl ?_) | (refine Yb rfl ?_ ?_ <;> intro hcnd <;> (try simp at hcnd) <;> try exact dc) | (refine Zn ?_ ?_; (focus (simp [hvl, bytes_full, hol]; done)); refine Zs ?_) | refine Zx ?_ | clear hK K)
   refine hL _ _ hi ?_
   exact Yr [some 2] (by simp [rowsOver, ob_succ v i (by omega), wbytes, u8_int])
  obtain rfl : i = 8 := by omega
  have hol := ob_length v 8 (by omega)
  repeat' (first | ((first | refine Zu ?_ | (refine Zv ?_ ?_; (focus (simp [bytes_full, hol, List.take_of_length_le]; done)))); intro K9 h9; simp (disch := first | exact dd | fail) [bytes_full, hol, List.take_of_length_le]; refine Zm ?_; ((repeat (refine And.intro (by first | omega | (simp [hol]; first | done | omega) | assumption | (intro e9; have e8 := congrArg List.length e9; first | (simp [hol] at e8; done) | ((try simp only [List.length_map, List.length_append] at e8); rw [List.length_nil] at e8; omega))) ?_)); (first | refine h9 _ _ (Ys ?_) | refine h9 _ _ (Yt ?_)); clear h9 K9)) | refine Zt ?_ | refine Y8 fun K hK => ?_ | (apply hK; clear hK K) | (refine Zk 0 [] ?_; refine Zl ?_) | (refine Yb rfl ?_ ?_ <;> intro hcnd <;> (try simp at hcnd) <;> try exact dc) | (refine Zn ?_ ?_; (focus (simp [bytes_full, hol, List.take_of_length_le]; done)); refine Zs ?_) | refine Zx ?_ | clear hK K)
  simp [ob_all v 8 (by omega), shaS, ← hv]
  exact .pure .str
 rcases hx with rfl | ⟨rfl, rfl⟩
 ·by_cases hn : l = []
  ·subst hn
   rw [show stOf [] = u32s z8 ++ [.sl 0 [], .int .i64 0] from rfl]
   repeat' (first | ((first | refine Zu ?_ | (refine Zv ?_ ?_; (focus (simp [st_get9, st_get8, st_take, st_put, lput_all]; done)))); intro K9 h9; simp (disch := first | exact dd | fail) [st_get9, st_get8, st_take, st_put, lput_all]; refine Zm ?_; ((first | refine Ap initial_call ?_ | skip) <;> ((repeat (refine And.intro (by first | omega | (simp [u32s]; first | done | omega) | assumption | (intro e9; have e8 := congrArg List.length e9; first | (simp [u32s] at e8; done) | ((try simp only [List.length_map, List.length_append] at e8); rw [List.length_nil] at e8; omega))) ?_)); (first | refine h9 _ _ (Ys ?_) | refine h9 _ _ (Yt ?_)); clear h9 K9))) | refine Zt ?_ | refine Y8 fun K hK => ?_ | (apply hK; clear hK K) | ((first | refine Zk 0 [0, 0, 0, 1, 0, 0, 0, 1] ?_ | refine Zk 0 [] ?_); refine Zl ?_) | (refine Yb rfl ?_ ?_ <;> intro hcnd <;> (try simp at hcnd) <;> try exact dc) | (refine Zn ?_ ?_; (focus (simp [st_get9, st_get8, st_take, st_put, lput_all]; done)); refine Zs ?_) | refine Zx ?_ | clear hK K)
   exact hL _ _ _ _ (Le.mk [some 0, none] (by simp [rOf]) (rowsRen_of (by simp) (by simp [rowsOver, hOf, comp, rOf])) (by simp)) main
  ·rw [hst hn]
   have hnn : 0 < l.length := List.length_pos_iff.2 hn
   repeat' (first | ((first | refine Zu ?_ | (refine Zv ?_ ?_; (focus (simp [st_get9, st_get8, st_take, st_put, lput_all, htk]; done)))); intro K9 h9; simp (disch := first | exact dd | fail) [st_get9, st_get8, st_take, st_put, lput_all, htk]; refine Zm ?_; ((first | refine Ap initial_call ?_ | skip) <;> ((repeat (refine And.intro (by first | omega | (simp [u32s]; first | done | omega) | assumption | (intro e9; have e8 := congrArg List.length e9; first | (simp [u32s] at e8; done) | ((try simp only [List.length_map, List.length_append] at e8); rw [List.length_nil] at e8; omega))) ?_)); (first | refine h9 _ _ (Ys ?_) | refine h9 _ _ (Yt ?_)); clear h9 K9))) | refine Zt ?_ | refine Y8 fun K hK => ?_ | (apply hK; clear hK K) | ((first | refine Zk 0 [0, 0, 0, 1, 0, 0, 0, 1] ?_ | refine Zk 0 [] ?_); refine Zl ?_) | (refine Yb rfl ?_ ?_ <;> intro hcnd <;> (try simp at hcnd) <;> try exact dc) | (refine Zn ?_ ?_; (focus (simp [st_get9, st_get8, st_take, st_put, lput_all, htk]; done)); refine Zs ?_) | refine Zx ?_ | clear hK K)
   exact hL _ _ _ _ (Le.mk [some 0, some 1] (by simp) (rowsRen_of (by simp) (by simp [rowsOver])) (by simp)) main
 ·repeat' (first | ((first | refine Zu ?_ | (refine Zv ?_ ?_; (focus (simp [lput_all]; done)))); intro K9 h9; simp (disch := first | exact dd | fail) [lput_all]; refine Zm ?_; ((first | refine Ap initial_call ?_ | skip) <;> ((repeat (refine And.intro (by first | omega | (simp [u32s]; first | done | omega) | assumption | (intro e9; have e8 := congrArg List.length e9; first | (simp [u32s] at e8; done) | ((try simp only [List.length_map, List.length_append] at e8); rw [List.length_nil] at e8; omega))) ?_)); (first | refine h9 _ _ (Ys ?_) | refine h9 _ _ (Yt ?_)); clear h9 K9))) | refine Zt ?_ | refine Y8 fun K hK => ?_ | (apply hK; clear hK K) | (refine Zk 0 [] ?_; refine Zl ?_) | (refine Yb rfl ?_ ?_ <;> intro hcnd <;> (try simp at hcnd) <;> try exact dc) | (refine Zn ?_ ?_; (focus (simp [lput_all]; done)); refine Zs ?_) | refine Zx ?_ | clear hK K)
  exact hL _ _ _ _ (Le.mk [some 0, none] (by simp [rOf]) (rowsRen_of (by simp) (by simp [rowsOver, hOf, comp, rOf])) (by simp)) main
 ·exact .str
end Go.Proofs.YtnpndfmbkmbhbaaGreatDoor
