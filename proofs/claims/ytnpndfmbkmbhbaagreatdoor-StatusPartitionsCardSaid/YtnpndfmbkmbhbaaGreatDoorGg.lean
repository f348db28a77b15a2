/-
 CONTRACTS: the parts of trees.
 Conditions: none.
-/
import Derived.Test.YtnpndfmbkmbhbaaGreatDoorGf
set_option maxRecDepth 100000
namespace Go.Proofs.YtnpndfmbkmbhbaaGreatDoor
open Go.Proofs.Tryz
open Go.VS
set_option linter.all false
attribute [local irreducible] arun arunD AWp aend shaS shaT
theorem mb4_call (n : Int) : PCall prog 189 [.int .i64 n] (.str (wbytes n)) := by
 refine pcall_body func189 rfl call189 ?_ ?_
 rotate_left 1
 refine awp_slots (s' := (.int .i64 n : V) :: zJ 15) rfl ?_; dsimp only [zJ]
 repeat' (first | refine Zq ?_ | refine Zt ?_ | refine Y8 fun K hK => ?_ | (apply hK; clear hK K) | refine Zx ?_ | clear hK K)
 ·simp [u8_byte, wbytes]
  exact .pure .str
 ·exact .str
theorem mb1_call (n : Int) : PCall prog 190 [.int .i64 n] (.str (b1S n)) := by
 refine pcall_body func190 rfl call190 ?_ ?_
 rotate_left 1
 refine awp_slots (s' := (.int .i64 n : V) :: zJ 6) rfl ?_; dsimp only [zJ]
 repeat' (first | refine Zq ?_ | refine Zt ?_ | refine Y8 fun K hK => ?_ | (apply hK; clear hK K) | refine Zx ?_ | clear hK K)
 ·simp [u8_byte, b1S]
  exact .pure .str
 ·exact .str

def parS (id : List UInt8) (l i : Int) (a b : List UInt8) : List UInt8 := shaT ([78] ++ id ++ b1S l ++ wbytes i ++ a ++ b)
def digM (id root : List UInt8) (leaf : Int) (m : List UInt8) : List UInt8 := shaT ([77] ++ id ++ root ++ wbytes leaf ++ m)
def idS (seed : List UInt8) : List UInt8 := shaT ([73] ++ seed)
@[simp] theorem parS_length (id : List UInt8) (l i : Int) (a b : List UInt8) : (parS id l i a b).length = 16 := by rw [parS, shaT_length]
@[simp] theorem digM_length (id root : List UInt8) (leaf : Int) (m : List UInt8) : (digM id root leaf m).length = 16 := by rw [digM, shaT_length]
@[simp] theorem idS_length (seed : List UInt8) : (idS seed).length = 16 := by rw [idS, shaT_length]

theorem parent_call (id : List UInt8) (l i : Int) (a b : List UInt8) (hi : id.length ≤ 1000) (ha : a.length ≤ 1000) (hb : b.length ≤ 1000) :
  PCall prog 159 [.str id, .int .i64 l, .int .i64 i, .str a, .str b] (.str (parS id l i a b)) := by
 refine pcall_body func159 rfl call159 ?_ ?_
 rotate_left 1
 refine awp_slots (s' := (.str id : V) :: (.int .i64 l : V) :: (.int .i64 i : V) :: (.str a : V) :: (.str b : V) :: zJ 15) rfl ?_; dsimp only [zJ]
 repeat' (first | (refine Zu ?_; intro K9 h9; refine Zd ?_; ((first | refine Ap (mb4_call _) ?_ | refine Ap (mb1_call _) ?_ | refine acall_view (hshort_call [[78], id, b1S l, wbytes i, a, b] (by simp) (by simp; omega)) ⟨view_row rfl (by simp) (by simp), trivial⟩ .str ?_ | skip) <;> (refine Zf h9 ?_; clear h9 K9))) | refine Zt ?_ | refine Y8 fun K hK => ?_ | (apply hK; clear hK K) | refine Zx ?_ | clear hK K)
 ·simp [parS]
  exact .pure .str
 ·exact .str

def keyV (h : Int) (id root : List UInt8) : V := .agg [.int .i64 h, .str id, .str root]
@[simp] theorem keyV_pure (h : Int) (id root : List UInt8) : (keyV h id root).Pure := by simp [keyV]
theorem mdigest_call (h : Int) (id root : List UInt8) (leaf : Int) (m : List UInt8) (hi : id.length ≤ 1000) (hr : root.length ≤ 1000) (hm : m.length ≤ 1000) :
  PCall prog 158 [.agg [.int .i64 h, .str id, .str root], .int .i64 leaf, .str m] (.str (digM id root leaf m)) := by
 refine pcall_body func158 rfl call158 ?_ ?_
 rotate_left 1
 refine awp_slots (s' := (.agg [.int .i64 h, .str id, .str root] : V) :: (.int .i64 leaf : V) :: (.str m : V) :: zJ 13) rfl ?_; dsimp only [zJ]
 repeat' (first | (refine Zu ?_; intro K9 h9; refine Zd ?_; ((first | refine Ap (mb4_call _) ?_ | refine acall_view (hshort_call [[77], id, root, wbytes leaf, m] (by simp) (by simp; omega)) ⟨view_row rfl (by simp) (by simp), trivial⟩ .str ?_ | skip) <;> (refine Zf h9 ?_; clear h9 K9))) | refine Zt ?_ | refine Y8 fun K hK => ?_ | (apply hK; clear hK K) | (refine Zk 1 [] ?_; refine Zl ?_) | refine Zx ?_ | clear hK K)
 ·simp [digM]
  exact .pure .str
 ·exact .str

def keyE (h : Int) (id root : List UInt8) : Int := if h < 0 ∨ 8 < h ∨ id.length ≠ 16 ∨ root.length ≠ 16 then 18 else 0
theorem check_call (h : Int) (id root : List UInt8) (hi : id.length ≤ 140737488355328) (hr : root.length ≤ 140737488355328) :
  PCall prog 155 [.agg [.int .i64 h, .str id, .str root]] (.int .i64 (keyE h id root)) := by
 refine pcall_body func155 rfl call155 ?_ ?_
 rotate_left 1
 refine awp_slots (s' := (.agg [.int .i64 h, .str id, .str root] : V) :: zJ 22) rfl ?_; dsimp only [zJ]
 by_cases h1 : h < 0 <;> by_cases h2 : 8 < h <;> by_cases h3 : (id.length : Int) = 16 <;> by_cases h4 : (root.length : Int) = 16 <;> (try (exfalso; omega)) <;> (
 repeat' (first | ((first | refine Zu ?_ | (refine Zv ?_ ?_; (focus (simp [h1, h2, h3, h4]; done)))); intro K9 h9; simp (disch := first | exact dd | fail) [h1, h2, h3, h4]; refine Zm ?_; refine Zf h9 ?_; clear h9 K9) | refine Zt ?_ | refine Y8 fun K hK => ?_ | (apply hK; clear hK K) | (refine Yb rfl ?_ ?_ <;> intro hcnd <;> (try simp at hcnd) <;> try exact dc) | (refine Zn ?_ ?_; (focus (simp [h1, h2, h3, h4]; done)); refine Zs ?_) | refine Zx ?_ | clear hK K)
 first
 | (rw [show keyE h id root = 18 by unfold keyE; rw [if_pos (by omega)]]; simp; exact .pure .int)
 | (rw [show keyE h id root = 0 by unfold keyE; rw [if_neg (by omega)]]; simp; exact .pure .int))
 ·exact .int
def leafN (s : List UInt8) : Int := (s.getD 0 0).toNat * 16777216 + (s.getD 1 0).toNat * 65536 + (s.getD 2 0).toNat * 256 + (s.getD 3 0).toNat
def leafV (s : List UInt8) : V := if s.length < 4 then .tup [.int .i64 0, .bool false] else .tup [.int .i64 (leafN s), .bool true]
theorem leafN_bounds (s : List UInt8) : 0 ≤ leafN s ∧ leafN s < 4294967296 := by
 have h0 : (s.getD 0 0).toNat < 256 := UInt8.toNat_lt _
 have h1 : (s.getD 1 0).toNat < 256 := UInt8.toNat_lt _
 have h2 : (s.getD 2 0).toNat < 256 := UInt8.toNat_lt _
 have h3 : (s.getD 3 0).toNat < 256 := UInt8.toNat_lt _
 unfold leafN; omega
end Go.Proofs.YtnpndfmbkmbhbaaGreatDoor
namespace Go.Proofs.YtnpndfmbkmbhbaaGreatDoor
open Go.Proofs.Tryz
open Go.VS
set_option linter.all false
attribute [local irreducible] arun arunD AWp aend shaS shaT
def leafS (id seed : List UInt8) (i : Int) : List UInt8 := pubS id i (chains id seed i 35)
@[simp] theorem leafS_length (id seed : List UInt8) (i : Int) : (leafS id seed i).length = 16 := by rw [leafS, pubS, shaT_length]
def lv0 (id seed : List UInt8) (k : Nat) : List (List UInt8) := (List.range k).map fun (i : Nat) => leafS id seed (i : Int)
def nx (id : List UInt8) (l : Nat) (L : List (List UInt8)) (k : Nat) : List (List UInt8) := (List.range k).map fun (i : Nat) => parS id (l : Int) (i : Int) (L.getD (2 * i) []) (L.getD (2 * i + 1) [])
@[simp] theorem lv0_length (id seed : List UInt8) (k : Nat) : (lv0 id seed k).length = k := by simp [lv0]
@[simp] theorem nx_length (id : List UInt8) (l : Nat) (L : List (List UInt8)) (k : Nat) : (nx id l L k).length = k := by simp [nx]
theorem lv0_succ (id seed : List UInt8) (k : Nat) : lv0 id seed (k + 1) = lv0 id seed k ++ [leafS id seed (k : Int)] := by simp [lv0, List.range_succ]
theorem nx_succ (id : List UInt8) (l : Nat) (L : List (List UInt8)) (k : Nat) : nx id l L (k + 1) = nx id l L k ++ [parS id (l : Int) (k : Int) (L.getD (2 * k) []) (L.getD (2 * k + 1) [])] := by simp [nx, List.range_succ]
theorem lv0_16 (id seed : List UInt8) (k : Nat) : ∀ x ∈ lv0 id seed k, x.length = 16 := by
 intro x hx; obtain ⟨i, -, rfl⟩ := List.mem_map.1 hx; exact leafS_length _ _ _
theorem nx_16 (id : List UInt8) (l : Nat) (L : List (List UInt8)) (k : Nat) : ∀ x ∈ nx id l L k, x.length = 16 := by
 intro x hx; obtain ⟨i, -, rfl⟩ := List.mem_map.1 hx; exact parS_length _ _ _ _ _

def lvl (id seed : List UInt8) (h : Nat) : Nat → List (List UInt8)
 | 0 => lv0 id seed (2 ^ h)
 | l + 1 => nx id l (lvl id seed h l) ((lvl id seed h l).length / 2)
theorem lvl_length (id seed : List UInt8) (h : Nat) : ∀ l, l ≤ h → (lvl id seed h l).length = 2 ^ (h - l)
 | 0, _ => by simp [lvl]
 | l + 1, hl => by
  rw [lvl, nx_length, lvl_length id seed h l (by omega), show h - l = (h - (l + 1)) + 1 by omega, Nat.pow_succ]
  omega
theorem lvl_16 (id seed : List UInt8) (h : Nat) : ∀ l, ∀ x ∈ lvl id seed h l, x.length = 16
 | 0 => lv0_16 _ _ _
 | l + 1 => nx_16 _ _ _ _
def node (id seed : List UInt8) (h l i : Nat) : List UInt8 := (lvl id seed h l).getD i []
theorem node_length (id seed : List UInt8) (h l i : Nat) (hl : l ≤ h) (hi : i < 2 ^ (h - l)) : (node id seed h l i).length = 16 := by
 have := lvl_length id seed h l hl
 rw [node, List.getD_eq_getElem?_getD, List.getElem?_eq_getElem (by omega)]
 exact lvl_16 id seed h l _ (List.getElem_mem _)
theorem node_zero (id seed : List UInt8) (h i : Nat) (hi : i < 2 ^ h) : node id seed h 0 i = leafS id seed (i : Int) := by
 simp [node, lvl, lv0, List.getD_eq_getElem?_getD, hi]
theorem node_succ (id seed : List UInt8) (h l i : Nat) (hl : l < h) (hi : i < 2 ^ (h - (l + 1))) : node id seed h (l + 1) i = parS id (l : Int) (i : Int) (node id seed h l (2 * i)) (node id seed h l (2 * i + 1)) := by
 have := lvl_length id seed h (l + 1) (by omega)
 rw [lvl, nx_length] at this
 simp only [node, lvl, nx, List.getD_eq_getElem?_getD]
 rw [List.getElem?_eq_getElem (by simpa [this] using hi)]
 simp
def rootS (id seed : List UInt8) (h : Nat) : List UInt8 := node id seed h h 0
@[simp] theorem rootS_length (id seed : List UInt8) (h : Nat) : (rootS id seed h).length = 16 := node_length id seed h h 0 (Nat.le_refl _) (by simp)

def xr (i : Nat) : Nat := if i % 2 = 0 then i + 1 else i - 1
theorem xr_bits : ∀ i : Nat, i < 256 → bits .xor .i64 (i : Int) 1 = (xr i : Int) := by decide +kernel
def auth (id seed : List UInt8) (h leaf k : Nat) : List UInt8 := ((List.range k).map fun l => node id seed h l (xr (leaf / 2 ^ l))).flatten
theorem auth_succ (id seed : List UInt8) (h leaf k : Nat) : auth id seed h leaf (k + 1) = auth id seed h leaf k ++ node id seed h k (xr (leaf / 2 ^ k)) := by simp [auth, List.range_succ]
theorem xr_lt {h l leaf : Nat} (hl : l < h) (hf : leaf < 2 ^ h) : xr (leaf / 2 ^ l) < 2 ^ (h - l) := by
 have e : 2 ^ h = 2 ^ l * 2 ^ (h - l) := by rw [← Nat.pow_add]; congr 1; omega
 have h1 : leaf / 2 ^ l < 2 ^ (h - l) := by rw [Nat.div_lt_iff_lt_mul (Nat.two_pow_pos l), Nat.mul_comm, ← e]; exact hf
 have e2 : 2 ^ (h - l) = 2 * 2 ^ (h - l - 1) := by rw [show h - l = (h - l - 1) + 1 by omega, Nat.pow_succ]; simp; omega
 rw [e2] at h1 ⊢
 generalize leaf / 2 ^ l = q at *
 generalize 2 ^ (h - l - 1) = t at *
 unfold xr; split <;> omega
theorem auth_length (id seed : List UInt8) (h leaf : Nat) (hf : leaf < 2 ^ h) : ∀ k, k ≤ h → (auth id seed h leaf k).length = 16 * k
 | 0, _ => rfl
 | k + 1, hk => by
  rw [auth_succ, List.length_append, auth_length id seed h leaf hf k (by omega), node_length id seed h k _ (by omega) (xr_lt (by omega) hf)]; omega

def sib (rest : List UInt8) (l : Nat) : List UInt8 := (rest.drop (16 * l)).take 16
theorem sib_auth (id seed : List UInt8) (h leaf l : Nat) (hf : leaf < 2 ^ h) : ∀ k, l < k → k ≤ h → sib (auth id seed h leaf k) l = node id seed h l (xr (leaf / 2 ^ l))
 | 0, h1, _ => by omega
 | k + 1, h1, h2 => by
  have hk := auth_length id seed h leaf hf k (by omega)
  rw [auth_succ]
  rcases Nat.lt_or_ge l k with h3 | h3
  ·rw [← sib_auth id seed h leaf l hf k h3 (by omega), sib, sib, List.drop_append_of_le_length (by omega), List.take_append_of_le_length (by simp; omega)]
  ·obtain rfl : l = k := by omega
   rw [sib, List.drop_append, List.drop_of_length_le (by omega), hk, Nat.sub_self, List.drop_zero, List.nil_append, List.take_of_length_le]
   rw [node_length id seed h l _ (by omega) (xr_lt (by omega) hf)]
   exact Nat.le_refl _

def climb (id rest : List UInt8) (leaf : Nat) (v : List UInt8) : Nat → List UInt8
 | 0 => v
 | l + 1 => if leaf / 2 ^ l % 2 = 0 then parS id (l : Int) ((leaf / 2 ^ l / 2 : Nat) : Int) (climb id rest leaf v l) (sib rest l) else parS id (l : Int) ((leaf / 2 ^ l / 2 : Nat) : Int) (sib rest l) (climb id rest leaf v l)
theorem climb_length (id rest : List UInt8) (leaf : Nat) (v : List UInt8) (hv : v.length = 16) : ∀ l, (climb id rest leaf v l).length = 16
 | 0 => hv
 | l + 1 => by rw [climb]; split <;> rw [parS_length]
theorem climb_node (id seed : List UInt8) (h leaf : Nat) (hf : leaf < 2 ^ h) : ∀ l, l ≤ h → climb id (auth id seed h leaf h) leaf (leafS id seed (leaf : Int)) l = node id seed h l (leaf / 2 ^ l)
 | 0, _ => by rw [climb, Nat.pow_zero, Nat.div_one, node_zero id seed h leaf hf]
 | l + 1, hl => by
  have e : 2 ^ h = 2 ^ l * 2 ^ (h - l) := by rw [← Nat.pow_add]; congr 1; omega
  have h1 : leaf / 2 ^ l < 2 ^ (h - l) := by rw [Nat.div_lt_iff_lt_mul (Nat.two_pow_pos l), Nat.mul_comm, ← e]; exact hf
  have e2 : 2 ^ (h - l) = 2 * 2 ^ (h - (l + 1)) := by rw [show h - l = (h - (l + 1)) + 1 by omega, Nat.pow_succ]; omega
  rw [climb, climb_node id seed h leaf hf l (by omega), sib_auth id seed h leaf l hf h (by omega) (Nat.le_refl _)]
  have e3 : leaf / 2 ^ (l + 1) = leaf / 2 ^ l / 2 := by rw [Nat.pow_succ, Nat.div_div_eq_div_mul]
  rw [e3, node_succ id seed h l _ (by omega) (by omega)]
  generalize leaf / 2 ^ l = q at *
  unfold xr
  by_cases hq : q % 2 = 0
  ·rw [if_pos hq, if_pos hq, show 2 * (q / 2) = q by omega]
  ·rw [if_neg hq, if_neg hq, show 2 * (q / 2) = q - 1 by omega, show q - 1 + 1 = q by omega]
theorem climb_root (id seed : List UInt8) (h leaf : Nat) (hf : leaf < 2 ^ h) : climb id (auth id seed h leaf h) leaf (leafS id seed (leaf : Int)) h = rootS id seed h := by
 rw [climb_node id seed h leaf hf h (Nat.le_refl _), rootS, Nat.div_eq_of_lt hf]

def sgnS (seed : List UInt8) (h leaf : Nat) (m : List UInt8) : List UInt8 :=
 wbytes (leaf : Int) ++ vF (idS seed) seed (leaf : Int) (digM (idS seed) (rootS (idS seed) seed h) (leaf : Int) m) 35 ++ auth (idS seed) seed h leaf h
theorem sgnS_length (seed : List UInt8) (h leaf : Nat) (m : List UInt8) (hf : leaf < 2 ^ h) : (sgnS seed h leaf m).length = 564 + 16 * h := by
 simp [sgnS, vF_length, auth_length (idS seed) seed h leaf hf h (Nat.le_refl _)]; omega
theorem toNat_ofNat {n : Nat} (h : n < 256) : (UInt8.ofNat n).toNat = n := by simp; omega
theorem leafN_wbytes (n : Int) (t : List UInt8) (h0 : 0 ≤ n) (h1 : n < 4294967296) : leafN (wbytes n ++ t) = n := by
 simp only [leafN, wbytes, List.cons_append, List.nil_append, List.getD_cons_zero, List.getD_cons_succ]
 rw [toNat_ofNat (by omega), toNat_ofNat (by omega), toNat_ofNat (by omega), toNat_ofNat (by omega)]
 omega

def verE (h : Int) (id root m s : List UInt8) : Int :=
 if keyE h id root ≠ 0 then 18 else if s.length ≠ 564 + 16 * h.toNat ∨ ((2 ^ h.toNat : Nat) : Int) ≤ leafN s then 17 else
  if climb id (s.drop 564) (leafN s).toNat (pubS id (leafN s) (recs id (leafN s) (digM id root (leafN s) m) ((s.drop 4).take 560) 35)) h.toNat = root then 0 else 17
theorem keyE_zero {h : Int} {id root : List UInt8} (e : keyE h id root = 0) : 0 ≤ h ∧ h ≤ 8 ∧ id.length = 16 ∧ root.length = 16 := by
 unfold keyE at e
 split at e
 ·omega
 ·omega
theorem pow_le_256 {h : Nat} (hh : h ≤ 8) : 2 ^ h ≤ 256 := Nat.le_trans (Nat.pow_le_pow_right (by omega) hh) (by omega)
theorem verE_sgn (seed : List UInt8) (h leaf : Nat) (m : List UInt8) (hh : h ≤ 8) (hf : leaf < 2 ^ h) : verE h (idS seed) (rootS (idS seed) seed h) m (sgnS seed h leaf m) = 0 := by
 have h256 := pow_le_256 hh
 have hk : keyE h (idS seed) (rootS (idS seed) seed h) = 0 := by
  unfold keyE; rw [if_neg]; simp; omega
 have hl := sgnS_length seed h leaf m hf
 have hn : leafN (sgnS seed h leaf m) = leaf := by
  rw [sgnS, List.append_assoc, leafN_wbytes _ _ (by omega) (by omega)]
 have hv := vF_length (idS seed) seed leaf (digM (idS seed) (rootS (idS seed) seed h) leaf m) 35
 have hd : (sgnS seed h leaf m).drop 564 = auth (idS seed) seed h leaf h := by
  rw [sgnS, List.drop_append, List.drop_of_length_le (by simp [hv]), List.nil_append]; simp [hv]
 have ht : ((sgnS seed h leaf m).drop 4).take 560 = vF (idS seed) seed leaf (digM (idS seed) (rootS (idS seed) seed h) leaf m) 35 := by
  rw [sgnS, List.append_assoc, List.drop_append, List.drop_of_length_le (by simp), List.nil_append]
  simp [hv]
 rw [verE, if_neg (by omega), hn, Int.toNat_natCast, if_neg (by rw [hl]; omega), hd, ht, recs_vals _ _ _ _ (digM_length _ _ _ _), Int.toNat_natCast, if_pos]
 exact climb_root (idS seed) seed h leaf hf
end Go.Proofs.YtnpndfmbkmbhbaaGreatDoor
namespace Go.Proofs.YtnpndfmbkmbhbaaGreatDoor
open Go.Proofs.Tryz
open Go.VS
set_option linter.all false
attribute [local irreducible] arun arunD AWp aend shaS shaT
def strsV (L : List (List UInt8)) : V := .sl L.length (L.map V.str)
@[simp] theorem strsV_pure (L : List (List UInt8)) : (strsV L).Pure := .sl
@[simp] theorem strsV_one (L : List (List UInt8)) : (strsV L).one = true := rfl
def lvVs (seed : List UInt8) (h k : Nat) : List V := (List.range k).map fun l => strsV (lvl (idS seed) seed h l)
@[simp] theorem lvVs_length (seed : List UInt8) (h k : Nat) : (lvVs seed h k).length = k := by simp [lvVs]
theorem lvVs_succ (seed : List UInt8) (h k : Nat) : lvVs seed h (k + 1) = lvVs seed h k ++ [strsV (lvl (idS seed) seed h k)] := by simp [lvVs, List.range_succ]
@[simp] theorem lvVs_pures (seed : List UInt8) (h k : Nat) : Pures (lvVs seed h k) := by
 intro x hx; obtain ⟨l, -, rfl⟩ := List.mem_map.1 hx; exact strsV_pure _
theorem lvVs_get (seed : List UInt8) (h k l : Nat) (hl : l < k) : (lvVs seed h k)[l]? = some (strsV (lvl (idS seed) seed h l)) := by
 simp [lvVs, hl]
theorem lvl_top (id seed : List UInt8) (h : Nat) : lvl id seed h h = [rootS id seed h] := by
 have hl := lvl_length id seed h h (Nat.le_refl _)
 rw [Nat.sub_self, Nat.pow_zero] at hl
 match hL : lvl id seed h h, hl with
 | [x], _ => simp [rootS, node, hL]
theorem shl_one (h : Nat) (hh : h ≤ 8) : IntKind.i64.wrap (2 ^ h) = ((2 ^ h : Nat) : Int) := by
 have : ∀ k, k ≤ 8 → IntKind.i64.wrap ((2 : Int) ^ k) = ((2 ^ k : Nat) : Int) := by decide +kernel
 exact this h hh

end Go.Proofs.YtnpndfmbkmbhbaaGreatDoor
namespace Go.Proofs.YtnpndfmbkmbhbaaGreatDoor
open Go.Proofs.Tryz
open Go.VS
set_option linter.all false
attribute [local irreducible] arun arunD AWp aend shaS shaT
theorem pubV_leaf (id seed : List UInt8) (i : Nat) (hi : id.length = 16) (hs : seed.length = 32) (hl : i < 256) : pubV id seed i = .tup [.str (leafS id seed i), .int .i64 0] := by
 rw [pubV, if_pos]
 ·rfl
 ·unfold seedE leafE; rw [if_neg (by omega), if_neg (by omega), if_neg (by omega)]

theorem getD_get {L : List (List UInt8)} {i : Nat} (h : i < L.length) : L.getD i [] = L[i] := by simp [List.getD_eq_getElem?_getD, h]
end Go.Proofs.YtnpndfmbkmbhbaaGreatDoor
namespace Go.Proofs.YtnpndfmbkmbhbaaGreatDoor
open Go.Proofs.Tryz
open Go.VS
set_option linter.all false
attribute [local irreducible] arun arunD AWp aend shaS shaT
theorem sigV_ok (id seed : List UInt8) (leaf : Nat) (d : List UInt8) (hi : id.length = 16) (hs : seed.length = 32) (hl : leaf < 256) (hd : d.length = 16) : sigV id seed leaf d = .tup [.str (vF id seed leaf d 35), .int .i64 0] := by
 rw [sigV, if_pos, if_pos hd]
 unfold seedE leafE; rw [if_neg (by omega), if_neg (by omega), if_neg (by omega)]

end Go.Proofs.YtnpndfmbkmbhbaaGreatDoor
