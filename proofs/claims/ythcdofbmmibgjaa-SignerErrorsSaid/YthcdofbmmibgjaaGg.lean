/-
  CONTRACTS: the parts of trees.
  CONTRACTS: what trees are, in plain words: levels, roots, paths; a path leads to the root.
  CONTRACTS: trees are made and grown.
  CONTRACTS: a tree grows; its key.
  CONTRACTS: a tree's key; its signatures.
  CONTRACTS: a tree signs.
  Conditions: none.
-/
import Derived.Test.YthcdofbmmibgjaaGf
import Derived.Test.YthcdofbmmibgjaaGd
namespace Go.Proofs.Ythcdofbmmibgjaa
open Go.VS
set_option linter.all false
attribute [local irreducible] arun arunD AWp aend shaS shaT

theorem mb4_call (n : Int) : PCall Try.prog 59 [.int .i64 n] (.str (wbytes n)) := by
  refine pcall_body Try.func59 rfl Try.call59 ?_ ?_
  rotate_left 1
  refine awp_slots (s' := [(.int .i64 n : V), .junk, .junk, .junk, .junk, .junk, .junk, .junk, .junk, .junk, .junk, .junk, .junk, .junk, .junk, .junk]) rfl ?_
  repeat' (first
    | (refine arun_go0 rfl fun K9 h9 => ?_; simp (disch := (first | (simp; done) | omega | (simp; omega))) ; (try simp (disch := (first | omega | (simp; omega))) only [wrap_i64, wrap_u8, wrap_u32, wrap_u64, Int.tmod_eq_emod_of_nonneg, Int.tdiv_eq_ediv_of_nonneg]); (repeat (refine And.intro (by first | omega | (simp; first | done | omega) | assumption | (intro e9; have e8 := congrArg List.length e9; first | (simp at e8; done) | ((try simp only [List.length_map, List.length_append] at e8); rw [List.length_nil] at e8; omega))) ?_)); (first | refine h9 _ _ (arun_slots (by first | (dsimp only [sput, sset]; done) | rfl) ?_)); clear h9 K9)
    | (refine arun_end ?_)
    | (refine awp_seq fun K hK => ?_)
    | (refine awp_region ?_)
    | (refine hK _ _ ?_; clear hK K)
    | (refine awp_ret ?_; refine ret_go ?_)
    | (refine fall_go ?_)
    | (simp only [athen_normal, athen_exit, athen_ret, ablock_self, ablock_ne, ablock_normal, ablock_ret, Nat.reduceBEq])
    | (clear hK K; refine hK _ _ ?_; clear hK K)
    | (clear hK K; clear hK K; refine hK _ _ ?_; clear hK K)
    | (clear hK K; clear hK K; clear hK K; refine hK _ _ ?_; clear hK K)
    | (clear hK K; clear hK K; clear hK K; clear hK K; refine hK _ _ ?_; clear hK K)
    | (clear hK K; clear hK K; clear hK K; clear hK K; clear hK K; refine hK _ _ ?_; clear hK K))
  · simp [u8_byte, wbytes]
    exact .pure .str
  · exact .str
theorem mb1_call (n : Int) : PCall Try.prog 78 [.int .i64 n] (.str (b1S n)) := by
  refine pcall_body Try.func78 rfl Try.call78 ?_ ?_
  rotate_left 1
  refine awp_slots (s' := [(.int .i64 n : V), .junk, .junk, .junk, .junk, .junk, .junk]) rfl ?_
  repeat' (first
    | (refine arun_go0 rfl fun K9 h9 => ?_; simp (disch := (first | (simp; done) | omega | (simp; omega))) ; (try simp (disch := (first | omega | (simp; omega))) only [wrap_i64, wrap_u8, wrap_u32, wrap_u64, Int.tmod_eq_emod_of_nonneg, Int.tdiv_eq_ediv_of_nonneg]); (repeat (refine And.intro (by first | omega | (simp; first | done | omega) | assumption | (intro e9; have e8 := congrArg List.length e9; first | (simp at e8; done) | ((try simp only [List.length_map, List.length_append] at e8); rw [List.length_nil] at e8; omega))) ?_)); (first | refine h9 _ _ (arun_slots (by first | (dsimp only [sput, sset]; done) | rfl) ?_)); clear h9 K9)
    | (refine arun_end ?_)
    | (refine awp_seq fun K hK => ?_)
    | (refine awp_region ?_)
    | (refine hK _ _ ?_; clear hK K)
    | (refine awp_ret ?_; refine ret_go ?_)
    | (refine fall_go ?_)
    | (simp only [athen_normal, athen_exit, athen_ret, ablock_self, ablock_ne, ablock_normal, ablock_ret, Nat.reduceBEq])
    | (clear hK K; refine hK _ _ ?_; clear hK K)
    | (clear hK K; clear hK K; refine hK _ _ ?_; clear hK K)
    | (clear hK K; clear hK K; clear hK K; refine hK _ _ ?_; clear hK K)
    | (clear hK K; clear hK K; clear hK K; clear hK K; refine hK _ _ ?_; clear hK K)
    | (clear hK K; clear hK K; clear hK K; clear hK K; clear hK K; refine hK _ _ ?_; clear hK K))
  · simp [u8_byte, b1S]
    exact .pure .str
  · exact .str

/-- A node above two others; the digest of a message for a leaf; the id of a seed. -/
def parS (id : List UInt8) (l i : Int) (a b : List UInt8) : List UInt8 := shaT ([78] ++ id ++ b1S l ++ wbytes i ++ a ++ b)
def digM (id root : List UInt8) (leaf : Int) (m : List UInt8) : List UInt8 := shaT ([77] ++ id ++ root ++ wbytes leaf ++ m)
def idS (seed : List UInt8) : List UInt8 := shaT ([73] ++ seed)
@[simp] theorem parS_length (id : List UInt8) (l i : Int) (a b : List UInt8) : (parS id l i a b).length = 16 := by rw [parS, shaT_length]
@[simp] theorem digM_length (id root : List UInt8) (leaf : Int) (m : List UInt8) : (digM id root leaf m).length = 16 := by rw [digM, shaT_length]
@[simp] theorem idS_length (seed : List UInt8) : (idS seed).length = 16 := by rw [idS, shaT_length]

theorem parent_call (id : List UInt8) (l i : Int) (a b : List UInt8) (hi : id.length ≤ 1000) (ha : a.length ≤ 1000) (hb : b.length ≤ 1000) :
    PCall Try.prog 62 [.str id, .int .i64 l, .int .i64 i, .str a, .str b] (.str (parS id l i a b)) := by
  refine pcall_body Try.func62 rfl Try.call62 ?_ ?_
  rotate_left 1
  refine awp_slots (s' := [(.str id : V), (.int .i64 l : V), (.int .i64 i : V), (.str a : V), (.str b : V), .junk, .junk, .junk, .junk, .junk, .junk, .junk, .junk, .junk, .junk, .junk, .junk, .junk, .junk, .junk]) rfl ?_
  repeat' (first
    | (refine arun_go0 rfl fun K9 h9 => ?_; simp (disch := (first | (simp; done) | omega | (simp; omega))) ; (try simp (disch := (first | omega | (simp; omega))) only [wrap_i64, wrap_u8, wrap_u32, wrap_u64, Int.tmod_eq_emod_of_nonneg, Int.tdiv_eq_ediv_of_nonneg]); (first | refine acall_pure (mb4_call _) (by simp) ?_ | refine acall_pure (mb1_call _) (by simp) ?_ | refine acall_view (hshort_call [[78], id, b1S l, wbytes i, a, b] (by simp) (by simp; omega)) ⟨view_row rfl (by simp) (by simp), trivial⟩ .str ?_ | skip); (repeat (refine And.intro (by first | omega | (simp; first | done | omega) | assumption | (intro e9; have e8 := congrArg List.length e9; first | (simp at e8; done) | ((try simp only [List.length_map, List.length_append] at e8); rw [List.length_nil] at e8; omega))) ?_)); (first | refine h9 _ _ (arun_slots (by first | (dsimp only [sput, sset]; done) | rfl) ?_)); clear h9 K9)
    | (refine arun_end ?_)
    | (refine awp_seq fun K hK => ?_)
    | (refine awp_region ?_)
    | (refine hK _ _ ?_; clear hK K)
    | (refine awp_ret ?_; refine ret_go ?_)
    | (refine fall_go ?_)
    | (simp only [athen_normal, athen_exit, athen_ret, ablock_self, ablock_ne, ablock_normal, ablock_ret, Nat.reduceBEq])
    | (clear hK K; refine hK _ _ ?_; clear hK K)
    | (clear hK K; clear hK K; refine hK _ _ ?_; clear hK K)
    | (clear hK K; clear hK K; clear hK K; refine hK _ _ ?_; clear hK K)
    | (clear hK K; clear hK K; clear hK K; clear hK K; refine hK _ _ ?_; clear hK K)
    | (clear hK K; clear hK K; clear hK K; clear hK K; clear hK K; refine hK _ _ ?_; clear hK K))
  · simp [parS]
    exact .pure .str
  · exact .str

/-- A key. -/
def keyV (h : Int) (id root : List UInt8) : V := .agg [.int .i64 h, .str id, .str root]
@[simp] theorem keyV_pure (h : Int) (id root : List UInt8) : (keyV h id root).Pure := by simp [keyV]
theorem mdigest_call (h : Int) (id root : List UInt8) (leaf : Int) (m : List UInt8) (hi : id.length ≤ 1000) (hr : root.length ≤ 1000) (hm : m.length ≤ 1000) :
    PCall Try.prog 58 [.agg [.int .i64 h, .str id, .str root], .int .i64 leaf, .str m] (.str (digM id root leaf m)) := by
  refine pcall_body Try.func58 rfl Try.call58 ?_ ?_
  rotate_left 1
  refine awp_slots (s' := [(.agg [.int .i64 h, .str id, .str root] : V), (.int .i64 leaf : V), (.str m : V), .junk, .junk, .junk, .junk, .junk, .junk, .junk, .junk, .junk, .junk, .junk, .junk, .junk]) rfl ?_
  repeat' (first
    | ((first | refine arun_go0 rfl fun K9 h9 => ?_ | refine arunD_goF rfl rfl fun K9 h9 => ?_ | refine arunD_goT rfl rfl fun K9 h9 => ?_); simp (disch := (first | (simp; done) | omega | (simp; omega))) ; (try simp (disch := (first | omega | (simp; omega))) only [wrap_i64, wrap_u8, wrap_u32, wrap_u64, Int.tmod_eq_emod_of_nonneg, Int.tdiv_eq_ediv_of_nonneg]); (first | refine acall_pure (mb4_call _) (by simp) ?_ | refine acall_view (hshort_call [[77], id, root, wbytes leaf, m] (by simp) (by simp; omega)) ⟨view_row rfl (by simp) (by simp), trivial⟩ .str ?_ | skip); (repeat (refine And.intro (by first | omega | (simp; first | done | omega) | assumption | (intro e9; have e8 := congrArg List.length e9; first | (simp at e8; done) | ((try simp only [List.length_map, List.length_append] at e8); rw [List.length_nil] at e8; omega))) ?_)); (first | refine h9 _ _ (arun_slots (by first | (dsimp only [sput, sset]; done) | rfl) ?_) | refine h9 _ _ (arunD_slots' (by first | (dsimp only [sput, sset]; done) | rfl) (by first | (dsimp only [List.tail]; done) | rfl) ?_)); clear h9 K9)
    | (refine arun_end ?_)
    | (refine arunD_end ?_)
    | (refine awp_seq fun K hK => ?_)
    | (refine awp_region ?_)
    | (refine hK _ _ ?_; clear hK K)
    | ((first | refine awp_region_draw' (m := 1) (by decide +kernel) [] (by kernel_rfl) (by decide +kernel) ?_); dsimp only [List.replicate, List.append_nil, List.cons_append, List.nil_append, List.length_cons, List.length_nil])
    | (refine awp_ret ?_; refine ret_go ?_)
    | (refine fall_go ?_)
    | (simp only [athen_normal, athen_exit, athen_ret, ablock_self, ablock_ne, ablock_normal, ablock_ret, Nat.reduceBEq])
    | (clear hK K; refine hK _ _ ?_; clear hK K)
    | (clear hK K; clear hK K; refine hK _ _ ?_; clear hK K)
    | (clear hK K; clear hK K; clear hK K; refine hK _ _ ?_; clear hK K)
    | (clear hK K; clear hK K; clear hK K; clear hK K; refine hK _ _ ?_; clear hK K)
    | (clear hK K; clear hK K; clear hK K; clear hK K; clear hK K; refine hK _ _ ?_; clear hK K))
  · simp [digM]
    exact .pure .str
  · exact .str

/-- What is wrong with a key. -/
def keyE (h : Int) (id root : List UInt8) : Int := if h < 0 ∨ 8 < h ∨ id.length ≠ 16 ∨ root.length ≠ 16 then 18 else 0
theorem check_call (h : Int) (id root : List UInt8) (hi : id.length ≤ 140737488355328) (hr : root.length ≤ 140737488355328) :
    PCall Try.prog 30 [.agg [.int .i64 h, .str id, .str root]] (.int .i64 (keyE h id root)) := by
  refine pcall_body Try.func30 rfl Try.call30 ?_ ?_
  rotate_left 1
  refine awp_slots (s' := [(.agg [.int .i64 h, .str id, .str root] : V), .junk, .junk, .junk, .junk, .junk, .junk, .junk, .junk, .junk, .junk, .junk, .junk, .junk, .junk, .junk, .junk, .junk, .junk, .junk, .junk, .junk, .junk]) rfl ?_
  by_cases h1 : h < 0 <;> by_cases h2 : 8 < h <;> by_cases h3 : (id.length : Int) = 16 <;> by_cases h4 : (root.length : Int) = 16 <;> (try (exfalso; omega)) <;> (
  repeat' (first
    | ((first | refine arun_go0 rfl fun K9 h9 => ?_ | (refine arun_go ?_ ?_; (focus (simp [h1, h2, h3, h4]; done)); intro K9 h9)); simp (disch := (first | (simp; done) | omega | (simp; omega))) [h1, h2, h3, h4]; (try simp (disch := (first | omega | (simp; omega))) only [wrap_i64, wrap_u8, wrap_u32, wrap_u64, Int.tmod_eq_emod_of_nonneg, Int.tdiv_eq_ediv_of_nonneg]); (repeat (refine And.intro (by first | omega | (simp; first | done | omega) | assumption | (intro e9; have e8 := congrArg List.length e9; first | (simp at e8; done) | ((try simp only [List.length_map, List.length_append] at e8); rw [List.length_nil] at e8; omega))) ?_)); (first | refine h9 _ _ (arun_slots (by first | (dsimp only [sput, sset]; done) | rfl) ?_)); clear h9 K9)
    | (refine arun_end ?_)
    | (refine awp_seq fun K hK => ?_)
    | (refine awp_region ?_)
    | (refine hK _ _ ?_; clear hK K)
    | (refine awp_cond rfl (fun hcnd => ?_) (fun hcnd => ?_) <;> (try simp at hcnd) <;> (try contradiction) <;> (try (exfalso; omega)))
    | (refine awp_skip ?_)
    | (refine awp_ret ?_; refine ret_go ?_)
    | (refine arun_no ?_ ?_; (focus (simp [h1, h2, h3, h4]; done)); refine arun_slots (by first | (dsimp only [sput, sset]; done) | rfl) ?_)
    | (refine fall_go ?_)
    | (simp only [athen_normal, athen_exit, athen_ret, ablock_self, ablock_ne, ablock_normal, ablock_ret, Nat.reduceBEq])
    | (clear hK K; refine hK _ _ ?_; clear hK K)
    | (clear hK K; clear hK K; refine hK _ _ ?_; clear hK K)
    | (clear hK K; clear hK K; clear hK K; refine hK _ _ ?_; clear hK K)
    | (clear hK K; clear hK K; clear hK K; clear hK K; refine hK _ _ ?_; clear hK K)
    | (clear hK K; clear hK K; clear hK K; clear hK K; clear hK K; refine hK _ _ ?_; clear hK K))
  first
  | (rw [show keyE h id root = 18 by unfold keyE; rw [if_pos (by omega)]]; simp; exact .pure .int)
  | (rw [show keyE h id root = 0 by unfold keyE; rw [if_neg (by omega)]]; simp; exact .pure .int))
  · exact .int
theorem rcheckKey_call (h : Int) (id root : List UInt8) (hi : id.length ≤ 140737488355328) (hr : root.length ≤ 140737488355328) :
    PCall Try.prog 31 [.agg [.int .i64 h, .str id, .str root]] (.int .i64 (keyE h id root)) := by
  refine pcall_body Try.func31 rfl Try.call31 ?_ ?_
  rotate_left 1
  refine awp_slots (s' := [(.agg [.int .i64 h, .str id, .str root] : V), .junk, .junk, .junk, .junk, .junk, .junk, .junk, .junk, .junk, .junk, .junk, .junk, .junk, .junk, .junk, .junk, .junk, .junk, .junk, .junk, .junk, .junk]) rfl ?_
  by_cases h1 : h < 0 <;> by_cases h2 : 8 < h <;> by_cases h3 : (id.length : Int) = 16 <;> by_cases h4 : (root.length : Int) = 16 <;> (try (exfalso; omega)) <;> (
  repeat' (first
    | ((first | refine arun_go0 rfl fun K9 h9 => ?_ | (refine arun_go ?_ ?_; (focus (simp [h1, h2, h3, h4]; done)); intro K9 h9)); simp (disch := (first | (simp; done) | omega | (simp; omega))) [h1, h2, h3, h4]; (try simp (disch := (first | omega | (simp; omega))) only [wrap_i64, wrap_u8, wrap_u32, wrap_u64, Int.tmod_eq_emod_of_nonneg, Int.tdiv_eq_ediv_of_nonneg]); (repeat (refine And.intro (by first | omega | (simp; first | done | omega) | assumption | (intro e9; have e8 := congrArg List.length e9; first | (simp at e8; done) | ((try simp only [List.length_map, List.length_append] at e8); rw [List.length_nil] at e8; omega))) ?_)); (first | refine h9 _ _ (arun_slots (by first | (dsimp only [sput, sset]; done) | rfl) ?_)); clear h9 K9)
    | (refine arun_end ?_)
    | (refine awp_seq fun K hK => ?_)
    | (refine awp_region ?_)
    | (refine hK _ _ ?_; clear hK K)
    | (refine awp_cond rfl (fun hcnd => ?_) (fun hcnd => ?_) <;> (try simp at hcnd) <;> (try contradiction) <;> (try (exfalso; omega)))
    | (refine awp_skip ?_)
    | (refine awp_ret ?_; refine ret_go ?_)
    | (refine arun_no ?_ ?_; (focus (simp [h1, h2, h3, h4]; done)); refine arun_slots (by first | (dsimp only [sput, sset]; done) | rfl) ?_)
    | (refine fall_go ?_)
    | (simp only [athen_normal, athen_exit, athen_ret, ablock_self, ablock_ne, ablock_normal, ablock_ret, Nat.reduceBEq])
    | (clear hK K; refine hK _ _ ?_; clear hK K)
    | (clear hK K; clear hK K; refine hK _ _ ?_; clear hK K)
    | (clear hK K; clear hK K; clear hK K; refine hK _ _ ?_; clear hK K)
    | (clear hK K; clear hK K; clear hK K; clear hK K; refine hK _ _ ?_; clear hK K)
    | (clear hK K; clear hK K; clear hK K; clear hK K; clear hK K; refine hK _ _ ?_; clear hK K))
  first
  | (rw [show keyE h id root = 18 by unfold keyE; rw [if_pos (by omega)]]; simp; exact .pure .int)
  | (rw [show keyE h id root = 0 by unfold keyE; rw [if_neg (by omega)]]; simp; exact .pure .int))
  · exact .int

/-- The leaf that a signature names. -/
def leafN (s : List UInt8) : Int := (s.getD 0 0).toNat * 16777216 + (s.getD 1 0).toNat * 65536 + (s.getD 2 0).toNat * 256 + (s.getD 3 0).toNat
def leafV (s : List UInt8) : V := if s.length < 4 then .tup [.int .i64 0, .bool false] else .tup [.int .i64 (leafN s), .bool true]
theorem leafN_bounds (s : List UInt8) : 0 ≤ leafN s ∧ leafN s < 4294967296 := by
  have h0 : (s.getD 0 0).toNat < 256 := UInt8.toNat_lt _
  have h1 : (s.getD 1 0).toNat < 256 := UInt8.toNat_lt _
  have h2 : (s.getD 2 0).toNat < 256 := UInt8.toNat_lt _
  have h3 : (s.getD 3 0).toNat < 256 := UInt8.toNat_lt _
  unfold leafN; omega
end Go.Proofs.Ythcdofbmmibgjaa
namespace Go.Proofs.Ythcdofbmmibgjaa
open Go.VS
set_option linter.all false
attribute [local irreducible] arun arunD AWp aend shaS shaT

def leafS (id seed : List UInt8) (i : Int) : List UInt8 := pubS id i (chains id seed i 35)
@[simp] theorem leafS_length (id seed : List UInt8) (i : Int) : (leafS id seed i).length = 16 := by rw [leafS, pubS, shaT_length]
/-- The first k leaves; the first k nodes above a level. -/
def lv0 (id seed : List UInt8) (k : Nat) : List (List UInt8) := (List.range k).map fun (i : Nat) => leafS id seed (i : Int)
def nx (id : List UInt8) (l : Nat) (L : List (List UInt8)) (k : Nat) : List (List UInt8) := (List.range k).map fun (i : Nat) => parS id (l : Int) (i : Int) (L.getD (2 * i) []) (L.getD (2 * i + 1) [])
@[simp] theorem lv0_length (id seed : List UInt8) (k : Nat) : (lv0 id seed k).length = k := by simp [lv0]
@[simp] theorem nx_length (id : List UInt8) (l : Nat) (L : List (List UInt8)) (k : Nat) : (nx id l L k).length = k := by simp [nx]
theorem lv0_succ (id seed : List UInt8) (k : Nat) : lv0 id seed (k + 1) = lv0 id seed k ++ [leafS id seed (k : Int)] := by simp [lv0, List.range_succ]
theorem nx_succ (id : List UInt8) (l : Nat) (L : List (List UInt8)) (k : Nat) : nx id l L (k + 1) = nx id l L k ++ [parS id (l : Int) (k : Int) (L.getD (2 * k) []) (L.getD (2 * k + 1) [])] := by simp [nx, List.range_succ]
theorem lv0_16 (id seed : List UInt8) (k : Nat) : ∀ x ∈ lv0 id seed k, x.length = 16 := by
  intro x hx; obtain ⟨i, -, rfl⟩ := List.mem_map.1 hx; exact leafS_length _ _ _
theorem nx_16 (id : List UInt8) (l : Nat) (L : List (List UInt8)) (k : Nat) : ∀ x ∈ nx id l L k, x.length = 16 := by
  intro x hx; obtain ⟨i, -, rfl⟩ := List.mem_map.1 hx; exact parS_length _ _ _ _ _

/-- Level l of the tree of height h. -/
def lvl (id seed : List UInt8) (h : Nat) : Nat → List (List UInt8)
  | 0 => lv0 id seed (2 ^ h)
  | l + 1 => nx id l (lvl id seed h l) ((lvl id seed h l).length / 2)
theorem lvl_length (id seed : List UInt8) (h : Nat) : ∀ l, l ≤ h → (lvl id seed h l).length = 2 ^ (h - l)
  | 0, _ => by simp [lvl]
  | l + 1, hl => by
    rw [lvl, nx_length, lvl_length id seed h l (by omega), show h - l = (h - (l + 1)) + 1 by omega, Nat.pow_succ]
    omega
theorem lvl_16 (id seed : List UInt8) (h : Nat) : ∀ l, ∀ x ∈ lvl id seed h l, x.length = 16
  | 0 => lv0_16 _ _ _
  | l + 1 => nx_16 _ _ _ _
def node (id seed : List UInt8) (h l i : Nat) : List UInt8 := (lvl id seed h l).getD i []
theorem node_length (id seed : List UInt8) (h l i : Nat) (hl : l ≤ h) (hi : i < 2 ^ (h - l)) : (node id seed h l i).length = 16 := by
  have := lvl_length id seed h l hl
  rw [node, List.getD_eq_getElem?_getD, List.getElem?_eq_getElem (by omega)]
  exact lvl_16 id seed h l _ (List.getElem_mem _)
theorem node_zero (id seed : List UInt8) (h i : Nat) (hi : i < 2 ^ h) : node id seed h 0 i = leafS id seed (i : Int) := by
  simp [node, lvl, lv0, List.getD_eq_getElem?_getD, hi]
theorem node_succ (id seed : List UInt8) (h l i : Nat) (hl : l < h) (hi : i < 2 ^ (h - (l + 1))) : node id seed h (l + 1) i = parS id (l : Int) (i : Int) (node id seed h l (2 * i)) (node id seed h l (2 * i + 1)) := by
  have := lvl_length id seed h (l + 1) (by omega)
  rw [lvl, nx_length] at this
  simp only [node, lvl, nx, List.getD_eq_getElem?_getD]
  rw [List.getElem?_eq_getElem (by simpa [this] using hi)]
  simp
def rootS (id seed : List UInt8) (h : Nat) : List UInt8 := node id seed h h 0
@[simp] theorem rootS_length (id seed : List UInt8) (h : Nat) : (rootS id seed h).length = 16 := node_length id seed h h 0 (Nat.le_refl _) (by simp)

/-- The other child. -/
def xr (i : Nat) : Nat := if i % 2 = 0 then i + 1 else i - 1
theorem xr_bits : ∀ i : Nat, i < 256 → bits .xor .i64 (i : Int) 1 = (xr i : Int) := by decide +kernel
/-- The path of a leaf, up to level k. -/
def auth (id seed : List UInt8) (h leaf k : Nat) : List UInt8 := ((List.range k).map fun l => node id seed h l (xr (leaf / 2 ^ l))).flatten
theorem auth_succ (id seed : List UInt8) (h leaf k : Nat) : auth id seed h leaf (k + 1) = auth id seed h leaf k ++ node id seed h k (xr (leaf / 2 ^ k)) := by simp [auth, List.range_succ]
theorem xr_lt {h l leaf : Nat} (hl : l < h) (hf : leaf < 2 ^ h) : xr (leaf / 2 ^ l) < 2 ^ (h - l) := by
  have e : 2 ^ h = 2 ^ l * 2 ^ (h - l) := by rw [← Nat.pow_add]; congr 1; omega
  have h1 : leaf / 2 ^ l < 2 ^ (h - l) := by rw [Nat.div_lt_iff_lt_mul (Nat.two_pow_pos l), Nat.mul_comm, ← e]; exact hf
  have e2 : 2 ^ (h - l) = 2 * 2 ^ (h - l - 1) := by rw [show h - l = (h - l - 1) + 1 by omega, Nat.pow_succ]; simp; omega
  rw [e2] at h1 ⊢
  generalize leaf / 2 ^ l = q at *
  generalize 2 ^ (h - l - 1) = t at *
  unfold xr; split <;> omega
theorem auth_length (id seed : List UInt8) (h leaf : Nat) (hf : leaf < 2 ^ h) : ∀ k, k ≤ h → (auth id seed h leaf k).length = 16 * k
  | 0, _ => rfl
  | k + 1, hk => by
    rw [auth_succ, List.length_append, auth_length id seed h leaf hf k (by omega), node_length id seed h k _ (by omega) (xr_lt (by omega) hf)]; omega

/-- The sibling at level l in what is behind a one-time signature. -/
def sib (rest : List UInt8) (l : Nat) : List UInt8 := (rest.drop (16 * l)).take 16
theorem sib_auth (id seed : List UInt8) (h leaf l : Nat) (hf : leaf < 2 ^ h) : ∀ k, l < k → k ≤ h → sib (auth id seed h leaf k) l = node id seed h l (xr (leaf / 2 ^ l))
  | 0, h1, _ => by omega
  | k + 1, h1, h2 => by
    have hk := auth_length id seed h leaf hf k (by omega)
    rw [auth_succ]
    rcases Nat.lt_or_ge l k with h3 | h3
    · rw [← sib_auth id seed h leaf l hf k h3 (by omega), sib, sib, List.drop_append_of_le_length (by omega), List.take_append_of_le_length (by simp; omega)]
    · obtain rfl : l = k := by omega
      rw [sib, List.drop_append, List.drop_of_length_le (by omega), hk, Nat.sub_self, List.drop_zero, List.nil_append, List.take_of_length_le]
      rw [node_length id seed h l _ (by omega) (xr_lt (by omega) hf)]
      exact Nat.le_refl _

/-- k levels up from v, which is the node of a leaf. -/
def climb (id rest : List UInt8) (leaf : Nat) (v : List UInt8) : Nat → List UInt8
  | 0 => v
  | l + 1 => if leaf / 2 ^ l % 2 = 0 then parS id (l : Int) ((leaf / 2 ^ l / 2 : Nat) : Int) (climb id rest leaf v l) (sib rest l) else parS id (l : Int) ((leaf / 2 ^ l / 2 : Nat) : Int) (sib rest l) (climb id rest leaf v l)
theorem climb_length (id rest : List UInt8) (leaf : Nat) (v : List UInt8) (hv : v.length = 16) : ∀ l, (climb id rest leaf v l).length = 16
  | 0 => hv
  | l + 1 => by rw [climb]; split <;> rw [parS_length]
theorem climb_node (id seed : List UInt8) (h leaf : Nat) (hf : leaf < 2 ^ h) : ∀ l, l ≤ h → climb id (auth id seed h leaf h) leaf (leafS id seed (leaf : Int)) l = node id seed h l (leaf / 2 ^ l)
  | 0, _ => by rw [climb, Nat.pow_zero, Nat.div_one, node_zero id seed h leaf hf]
  | l + 1, hl => by
    have e : 2 ^ h = 2 ^ l * 2 ^ (h - l) := by rw [← Nat.pow_add]; congr 1; omega
    have h1 : leaf / 2 ^ l < 2 ^ (h - l) := by rw [Nat.div_lt_iff_lt_mul (Nat.two_pow_pos l), Nat.mul_comm, ← e]; exact hf
    have e2 : 2 ^ (h - l) = 2 * 2 ^ (h - (l + 1)) := by rw [show h - l = (h - (l + 1)) + 1 by omega, Nat.pow_succ]; omega
    rw [climb, climb_node id seed h leaf hf l (by omega), sib_auth id seed h leaf l hf h (by omega) (Nat.le_refl _)]
    have e3 : leaf / 2 ^ (l + 1) = leaf / 2 ^ l / 2 := by rw [Nat.pow_succ, Nat.div_div_eq_div_mul]
    rw [e3, node_succ id seed h l _ (by omega) (by omega)]
    generalize leaf / 2 ^ l = q at *
    unfold xr
    by_cases hq : q % 2 = 0
    · rw [if_pos hq, if_pos hq, show 2 * (q / 2) = q by omega]
    · rw [if_neg hq, if_neg hq, show 2 * (q / 2) = q - 1 by omega, show q - 1 + 1 = q by omega]
theorem climb_root (id seed : List UInt8) (h leaf : Nat) (hf : leaf < 2 ^ h) : climb id (auth id seed h leaf h) leaf (leafS id seed (leaf : Int)) h = rootS id seed h := by
  rw [climb_node id seed h leaf hf h (Nat.le_refl _), rootS, Nat.div_eq_of_lt hf]

/-- A signature. -/
def sgnS (seed : List UInt8) (h leaf : Nat) (m : List UInt8) : List UInt8 :=
  wbytes (leaf : Int) ++ vF (idS seed) seed (leaf : Int) (digM (idS seed) (rootS (idS seed) seed h) (leaf : Int) m) 35 ++ auth (idS seed) seed h leaf h
theorem sgnS_length (seed : List UInt8) (h leaf : Nat) (m : List UInt8) (hf : leaf < 2 ^ h) : (sgnS seed h leaf m).length = 564 + 16 * h := by
  simp [sgnS, vF_length, auth_length (idS seed) seed h leaf hf h (Nat.le_refl _)]; omega
theorem toNat_ofNat {n : Nat} (h : n < 256) : (UInt8.ofNat n).toNat = n := by simp; omega
theorem leafN_wbytes (n : Int) (t : List UInt8) (h0 : 0 ≤ n) (h1 : n < 4294967296) : leafN (wbytes n ++ t) = n := by
  simp only [leafN, wbytes, List.cons_append, List.nil_append, List.getD_cons_zero, List.getD_cons_succ]
  rw [toNat_ofNat (by omega), toNat_ofNat (by omega), toNat_ofNat (by omega), toNat_ofNat (by omega)]
  omega

/-- What is wrong with a signature. -/
def verE (h : Int) (id root m s : List UInt8) : Int :=
  if keyE h id root ≠ 0 then 18 else if s.length ≠ 564 + 16 * h.toNat ∨ ((2 ^ h.toNat : Nat) : Int) ≤ leafN s then 17 else
    if climb id (s.drop 564) (leafN s).toNat (pubS id (leafN s) (recs id (leafN s) (digM id root (leafN s) m) ((s.drop 4).take 560) 35)) h.toNat = root then 0 else 17
theorem keyE_zero {h : Int} {id root : List UInt8} (e : keyE h id root = 0) : 0 ≤ h ∧ h ≤ 8 ∧ id.length = 16 ∧ root.length = 16 := by
  unfold keyE at e
  split at e
  · omega
  · omega
theorem pow_le_256 {h : Nat} (hh : h ≤ 8) : 2 ^ h ≤ 256 := Nat.le_trans (Nat.pow_le_pow_right (by omega) hh) (by omega)
theorem verE_sgn (seed : List UInt8) (h leaf : Nat) (m : List UInt8) (hh : h ≤ 8) (hf : leaf < 2 ^ h) : verE h (idS seed) (rootS (idS seed) seed h) m (sgnS seed h leaf m) = 0 := by
  have h256 := pow_le_256 hh
  have hk : keyE h (idS seed) (rootS (idS seed) seed h) = 0 := by
    unfold keyE; rw [if_neg]; simp; omega
  have hl := sgnS_length seed h leaf m hf
  have hn : leafN (sgnS seed h leaf m) = leaf := by
    rw [sgnS, List.append_assoc, leafN_wbytes _ _ (by omega) (by omega)]
  have hv := vF_length (idS seed) seed leaf (digM (idS seed) (rootS (idS seed) seed h) leaf m) 35
  have hd : (sgnS seed h leaf m).drop 564 = auth (idS seed) seed h leaf h := by
    rw [sgnS, List.drop_append, List.drop_of_length_le (by simp [hv]), List.nil_append]; simp [hv]
  have ht : ((sgnS seed h leaf m).drop 4).take 560 = vF (idS seed) seed leaf (digM (idS seed) (rootS (idS seed) seed h) leaf m) 35 := by
    rw [sgnS, List.append_assoc, List.drop_append, List.drop_of_length_le (by simp), List.nil_append]
    simp [hv]
  rw [verE, if_neg (by omega), hn, Int.toNat_natCast, if_neg (by rw [hl]; omega), hd, ht, recs_vals _ _ _ _ (digM_length _ _ _ _), Int.toNat_natCast, if_pos]
  exact climb_root (idS seed) seed h leaf hf
end Go.Proofs.Ythcdofbmmibgjaa
namespace Go.Proofs.Ythcdofbmmibgjaa
open Go.VS
set_option linter.all false
attribute [local irreducible] arun arunD AWp aend shaS shaT

def strsV (L : List (List UInt8)) : V := .sl L.length (L.map V.str)
@[simp] theorem strsV_pure (L : List (List UInt8)) : (strsV L).Pure := .sl
@[simp] theorem strsV_one (L : List (List UInt8)) : (strsV L).one = true := rfl
/-- The first k levels. -/
def lvVs (seed : List UInt8) (h k : Nat) : List V := (List.range k).map fun l => strsV (lvl (idS seed) seed h l)
@[simp] theorem lvVs_length (seed : List UInt8) (h k : Nat) : (lvVs seed h k).length = k := by simp [lvVs]
theorem lvVs_succ (seed : List UInt8) (h k : Nat) : lvVs seed h (k + 1) = lvVs seed h k ++ [strsV (lvl (idS seed) seed h k)] := by simp [lvVs, List.range_succ]
@[simp] theorem lvVs_pures (seed : List UInt8) (h k : Nat) : Pures (lvVs seed h k) := by
  intro x hx; obtain ⟨l, -, rfl⟩ := List.mem_map.1 hx; exact strsV_pure _
theorem lvVs_get (seed : List UInt8) (h k l : Nat) (hl : l < k) : (lvVs seed h k)[l]? = some (strsV (lvl (idS seed) seed h l)) := by
  simp [lvVs, hl]
theorem lvl_top (id seed : List UInt8) (h : Nat) : lvl id seed h h = [rootS id seed h] := by
  have hl := lvl_length id seed h h (Nat.le_refl _)
  rw [Nat.sub_self, Nat.pow_zero] at hl
  match hL : lvl id seed h h, hl with
  | [x], _ => simp [rootS, node, hL]
/-- A tree's row: its nodes are there, or not yet. -/
def trR (seed : List UInt8) (h : Nat) (g : Bool) : List V := [if g = true then .sl (h + 1) (lvVs seed h (h + 1)) else .nils, .str seed, .str (idS seed), .int .i64 h]
def zR : List V := [.nils, .str [], .str [], .int .i64 0]
@[simp] theorem trR_pures (seed : List UInt8) (h : Nat) (g : Bool) : Pures (trR seed h g) := by cases g <;> simp [trR]
@[simp] theorem zR_pures : Pures zR := by simp [zR]
theorem shl_one (h : Nat) (hh : h ≤ 8) : IntKind.i64.wrap (2 ^ h) = ((2 ^ h : Nat) : Int) := by
  have : ∀ k, k ≤ 8 → IntKind.i64.wrap ((2 : Int) ^ k) = ((2 ^ k : Nat) : Int) := by decide +kernel
  exact this h hh

/-- What is wrong with a seed and a height. -/
def genE (seed : List UInt8) (h : Int) : Int := if seed.length ≠ 32 then 18 else if h < 0 ∨ 8 < h then 1 else 0
theorem generate_call (seed : List UInt8) (h : Nat) (hs : seed.length = 32) (hh : h ≤ 8) : GCall Try.prog 22 [.str seed, .int .i64 h] [] [trR seed h false] (.tup [.ref 0 0, .int .i64 0]) := by
  refine gcall_body Try.func22 rfl Try.call22 ?_
  refine awp_slots (s' := [(.str seed : V), (.int .i64 h : V), .junk, .junk, .junk, .junk, .junk, .junk, .junk, .junk, .junk, .junk, .junk, .junk, .junk, .junk, .junk, .junk, .junk, .junk, .junk, .junk, .junk, .junk]) rfl ?_
  refine awp_rows (rows' := []) rfl ?_
  repeat' (first
    | ((first | refine arun_go0 rfl fun K9 h9 => ?_ | (refine arun_go ?_ ?_; (focus (simp [hs]; done)); intro K9 h9)); simp (disch := (first | (simp; done) | omega | (simp; omega))) [hs]; (try simp (disch := (first | omega | (simp; omega))) only [wrap_i64, wrap_u8, wrap_u32, wrap_u64, Int.tmod_eq_emod_of_nonneg, Int.tdiv_eq_ediv_of_nonneg]); (first | refine acall_view (hshort_call [[73], seed] (by simp) (by simp; omega)) ⟨view_row rfl (by simp) (by simp), trivial⟩ .str ?_ | skip); (repeat (refine And.intro (by first | omega | (simp; first | done | omega) | assumption | (intro e9; have e8 := congrArg List.length e9; first | (simp at e8; done) | ((try simp only [List.length_map, List.length_append] at e8); rw [List.length_nil] at e8; omega))) ?_)); (first | refine h9 _ _ (arun_slots (by first | (dsimp only [sput, sset]; done) | rfl) ?_)); clear h9 K9)
    | (refine arun_end ?_)
    | (refine awp_seq fun K hK => ?_)
    | (refine awp_region ?_)
    | (refine hK _ _ ?_; clear hK K)
    | (refine awp_block ?_)
    | (refine awp_cond rfl (fun hcnd => ?_) (fun hcnd => ?_) <;> (try simp at hcnd) <;> (try contradiction) <;> (try (exfalso; omega)))
    | (refine awp_skip ?_)
    | (refine awp_ret ?_; refine ret_go ?_)
    | (refine arun_no ?_ ?_; (focus (simp [hs]; done)); refine arun_slots (by first | (dsimp only [sput, sset]; done) | rfl) ?_)
    | (refine fall_go ?_)
    | (simp only [athen_normal, athen_exit, athen_ret, ablock_self, ablock_ne, ablock_normal, ablock_ret, Nat.reduceBEq])
    | (clear hK K; refine hK _ _ ?_; clear hK K)
    | (clear hK K; clear hK K; refine hK _ _ ?_; clear hK K)
    | (clear hK K; clear hK K; clear hK K; refine hK _ _ ?_; clear hK K)
    | (clear hK K; clear hK K; clear hK K; clear hK K; refine hK _ _ ?_; clear hK K)
    | (clear hK K; clear hK K; clear hK K; clear hK K; clear hK K; refine hK _ _ ?_; clear hK K))
  simp
  exact Le.mk [some 1] ⟨ren_tup (by simp), trivial⟩ (rowsRen_of (by simp) (by simp [rowsOver, trR, idS])) (by simp)
theorem generate_err (seed : List UInt8) (h : Int) (hs : seed.length ≤ 140737488355328) (he : genE seed h ≠ 0) : PCall Try.prog 22 [.str seed, .int .i64 h] (.tup [.nilp, .int .i64 (genE seed h)]) := by
  refine pcall_body Try.func22 rfl Try.call22 ?_ ?_
  rotate_left 1
  refine awp_slots (s' := [(.str seed : V), (.int .i64 h : V), .junk, .junk, .junk, .junk, .junk, .junk, .junk, .junk, .junk, .junk, .junk, .junk, .junk, .junk, .junk, .junk, .junk, .junk, .junk, .junk, .junk, .junk]) rfl ?_
  by_cases h1 : (seed.length : Int) = 32 <;> by_cases h2 : h < 0 <;> by_cases h3 : 8 < h <;> (try (exfalso; omega)) <;> (try (exfalso; apply he; unfold genE; rw [if_neg (by omega), if_neg (by omega)]; done)) <;> (
  repeat' (first
    | ((first | refine arun_go0 rfl fun K9 h9 => ?_ | (refine arun_go ?_ ?_; (focus (simp [h1, h2, h3]; done)); intro K9 h9)); simp (disch := (first | (simp; done) | omega | (simp; omega))) [h1, h2, h3]; (try simp (disch := (first | omega | (simp; omega))) only [wrap_i64, wrap_u8, wrap_u32, wrap_u64, Int.tmod_eq_emod_of_nonneg, Int.tdiv_eq_ediv_of_nonneg]); (repeat (refine And.intro (by first | omega | (simp; first | done | omega) | assumption | (intro e9; have e8 := congrArg List.length e9; first | (simp at e8; done) | ((try simp only [List.length_map, List.length_append] at e8); rw [List.length_nil] at e8; omega))) ?_)); (first | refine h9 _ _ (arun_slots (by first | (dsimp only [sput, sset]; done) | rfl) ?_)); clear h9 K9)
    | (refine arun_end ?_)
    | (refine awp_seq fun K hK => ?_)
    | (refine awp_region ?_)
    | (refine hK _ _ ?_; clear hK K)
    | (refine awp_block ?_)
    | (refine awp_cond rfl (fun hcnd => ?_) (fun hcnd => ?_) <;> (try simp at hcnd) <;> (try contradiction) <;> (try (exfalso; omega)))
    | (refine awp_skip ?_)
    | (refine awp_ret ?_; refine ret_go ?_)
    | (refine arun_no ?_ ?_; (focus (simp [h1, h2, h3]; done)); refine arun_slots (by first | (dsimp only [sput, sset]; done) | rfl) ?_)
    | (refine fall_go ?_)
    | (simp only [athen_normal, athen_exit, athen_ret, ablock_self, ablock_ne, ablock_normal, ablock_ret, Nat.reduceBEq])
    | (clear hK K; refine hK _ _ ?_; clear hK K)
    | (clear hK K; clear hK K; refine hK _ _ ?_; clear hK K)
    | (clear hK K; clear hK K; clear hK K; refine hK _ _ ?_; clear hK K)
    | (clear hK K; clear hK K; clear hK K; clear hK K; refine hK _ _ ?_; clear hK K)
    | (clear hK K; clear hK K; clear hK K; clear hK K; clear hK K; refine hK _ _ ?_; clear hK K))
  first
  | (rw [show genE seed h = 18 by unfold genE; rw [if_pos (by omega)]]; simp; exact .pure (by simp))
  | (rw [show genE seed h = 1 by unfold genE; rw [if_neg (by omega), if_pos (by omega)]]; simp; exact .pure (by simp)))
  · simp

theorem valid_call (seed : List UInt8) (a b c : V) (hs : seed ≠ []) : PCall Try.prog 52 [.rptr [a, .str seed, b, c]] (.bool true) := by
  refine pcall_body Try.func52 rfl Try.call52 ?_ ?_
  rotate_left 1
  refine awp_slots (s' := [(.rptr [a, .str seed, b, c] : V), .junk, .junk, .junk, .junk, .junk, .junk, .junk, .junk, .junk, .junk, .junk]) rfl ?_
  obtain ⟨x, t, rfl⟩ := List.exists_cons_of_ne_nil hs
  repeat' (first
    | ((first | refine arun_go0 rfl fun K9 h9 => ?_ | (refine arun_go ?_ ?_; (focus (simp ; done)); intro K9 h9)); simp (disch := (first | (simp; done) | omega | (simp; omega))) ; (try simp (disch := (first | omega | (simp; omega))) only [wrap_i64, wrap_u8, wrap_u32, wrap_u64, Int.tmod_eq_emod_of_nonneg, Int.tdiv_eq_ediv_of_nonneg]); (repeat (refine And.intro (by first | omega | (simp; first | done | omega) | assumption | (intro e9; have e8 := congrArg List.length e9; first | (simp at e8; done) | ((try simp only [List.length_map, List.length_append] at e8); rw [List.length_nil] at e8; omega))) ?_)); (first | refine h9 _ _ (arun_slots (by first | (dsimp only [sput, sset]; done) | rfl) ?_)); clear h9 K9)
    | (refine arun_end ?_)
    | (refine awp_seq fun K hK => ?_)
    | (refine awp_region ?_)
    | (refine hK _ _ ?_; clear hK K)
    | (refine awp_ret ?_; refine ret_go ?_)
    | (refine arun_no ?_ ?_; (focus (simp ; done)); refine arun_slots (by first | (dsimp only [sput, sset]; done) | rfl) ?_)
    | (refine fall_go ?_)
    | (simp only [athen_normal, athen_exit, athen_ret, ablock_self, ablock_ne, ablock_normal, ablock_ret, Nat.reduceBEq])
    | (clear hK K; refine hK _ _ ?_; clear hK K)
    | (clear hK K; clear hK K; refine hK _ _ ?_; clear hK K)
    | (clear hK K; clear hK K; clear hK K; refine hK _ _ ?_; clear hK K)
    | (clear hK K; clear hK K; clear hK K; clear hK K; refine hK _ _ ?_; clear hK K)
    | (clear hK K; clear hK K; clear hK K; clear hK K; clear hK K; refine hK _ _ ?_; clear hK K))
  · simp
    exact .pure .bool
  · exact .bool
theorem valid_zero (a b c : V) : PCall Try.prog 52 [.rptr [a, .str [], b, c]] (.bool false) := by
  refine pcall_body Try.func52 rfl Try.call52 ?_ ?_
  rotate_left 1
  refine awp_slots (s' := [(.rptr [a, .str [], b, c] : V), .junk, .junk, .junk, .junk, .junk, .junk, .junk, .junk, .junk, .junk, .junk]) rfl ?_
  repeat' (first
    | ((first | refine arun_go0 rfl fun K9 h9 => ?_ | (refine arun_go ?_ ?_; (focus (simp ; done)); intro K9 h9)); simp (disch := (first | (simp; done) | omega | (simp; omega))) ; (try simp (disch := (first | omega | (simp; omega))) only [wrap_i64, wrap_u8, wrap_u32, wrap_u64, Int.tmod_eq_emod_of_nonneg, Int.tdiv_eq_ediv_of_nonneg]); (repeat (refine And.intro (by first | omega | (simp; first | done | omega) | assumption | (intro e9; have e8 := congrArg List.length e9; first | (simp at e8; done) | ((try simp only [List.length_map, List.length_append] at e8); rw [List.length_nil] at e8; omega))) ?_)); (first | refine h9 _ _ (arun_slots (by first | (dsimp only [sput, sset]; done) | rfl) ?_)); clear h9 K9)
    | (refine arun_end ?_)
    | (refine awp_seq fun K hK => ?_)
    | (refine awp_region ?_)
    | (refine hK _ _ ?_; clear hK K)
    | (refine awp_ret ?_; refine ret_go ?_)
    | (refine arun_no ?_ ?_; (focus (simp ; done)); refine arun_slots (by first | (dsimp only [sput, sset]; done) | rfl) ?_)
    | (refine fall_go ?_)
    | (simp only [athen_normal, athen_exit, athen_ret, ablock_self, ablock_ne, ablock_normal, ablock_ret, Nat.reduceBEq])
    | (clear hK K; refine hK _ _ ?_; clear hK K)
    | (clear hK K; clear hK K; refine hK _ _ ?_; clear hK K)
    | (clear hK K; clear hK K; clear hK K; refine hK _ _ ?_; clear hK K)
    | (clear hK K; clear hK K; clear hK K; clear hK K; refine hK _ _ ?_; clear hK K)
    | (clear hK K; clear hK K; clear hK K; clear hK K; clear hK K; refine hK _ _ ?_; clear hK K))
  · simp
    exact .pure .bool
  · exact .bool
theorem valid_nil : PCall Try.prog 52 [.nilp] (.bool false) := by
  refine pcall_body Try.func52 rfl Try.call52 ?_ ?_
  rotate_left 1
  refine awp_slots (s' := [(.nilp : V), .junk, .junk, .junk, .junk, .junk, .junk, .junk, .junk, .junk, .junk, .junk]) rfl ?_
  repeat' (first
    | ((first | refine arun_go0 rfl fun K9 h9 => ?_ | (refine arun_go ?_ ?_; (focus (simp ; done)); intro K9 h9)); simp (disch := (first | (simp; done) | omega | (simp; omega))) ; (try simp (disch := (first | omega | (simp; omega))) only [wrap_i64, wrap_u8, wrap_u32, wrap_u64, Int.tmod_eq_emod_of_nonneg, Int.tdiv_eq_ediv_of_nonneg]); (repeat (refine And.intro (by first | omega | (simp; first | done | omega) | assumption | (intro e9; have e8 := congrArg List.length e9; first | (simp at e8; done) | ((try simp only [List.length_map, List.length_append] at e8); rw [List.length_nil] at e8; omega))) ?_)); (first | refine h9 _ _ (arun_slots (by first | (dsimp only [sput, sset]; done) | rfl) ?_)); clear h9 K9)
    | (refine arun_end ?_)
    | (refine awp_seq fun K hK => ?_)
    | (refine awp_region ?_)
    | (refine hK _ _ ?_; clear hK K)
    | (refine awp_ret ?_; refine ret_go ?_)
    | (refine arun_no ?_ ?_; (focus (simp ; done)); refine arun_slots (by first | (dsimp only [sput, sset]; done) | rfl) ?_)
    | (refine fall_go ?_)
    | (simp only [athen_normal, athen_exit, athen_ret, ablock_self, ablock_ne, ablock_normal, ablock_ret, Nat.reduceBEq])
    | (clear hK K; refine hK _ _ ?_; clear hK K)
    | (clear hK K; clear hK K; refine hK _ _ ?_; clear hK K)
    | (clear hK K; clear hK K; clear hK K; refine hK _ _ ?_; clear hK K)
    | (clear hK K; clear hK K; clear hK K; clear hK K; refine hK _ _ ?_; clear hK K)
    | (clear hK K; clear hK K; clear hK K; clear hK K; clear hK K; refine hK _ _ ?_; clear hK K))
  · simp
    exact .pure .bool
  · exact .bool

theorem leaves_call (seed : List UInt8) (h : Nat) (g : Bool) (hs : seed ≠ []) (hh : h ≤ 8) : PCall Try.prog 27 [.rptr (trR seed h g)] (.int .i64 ((2 ^ h : Nat) : Int)) := by
  refine pcall_body Try.func27 rfl Try.call27 ?_ ?_
  rotate_left 1
  refine awp_slots (s' := [(.rptr (trR seed h g) : V), .junk, .junk, .junk, .junk, .junk, .junk, .junk, .junk, .junk, .junk, .junk]) rfl ?_
  have hsl := shl_one h hh
  generalize 2 ^ h = p at *
  unfold trR
  generalize (if g = true then V.sl (h + 1) (lvVs seed h (h + 1)) else V.nils) = a
  repeat' (first
    | (refine arun_go0 rfl fun K9 h9 => ?_; simp (disch := (first | (simp; done) | omega | (simp; omega))) [hsl]; (try simp (disch := (first | omega | (simp; omega))) only [wrap_i64, wrap_u8, wrap_u32, wrap_u64, Int.tmod_eq_emod_of_nonneg, Int.tdiv_eq_ediv_of_nonneg]); (first | refine acall_pure (valid_call seed a (.str (idS seed)) (.int .i64 h) hs) (by simp) ?_ | skip); (repeat (refine And.intro (by first | omega | (simp; first | done | omega) | assumption | (intro e9; have e8 := congrArg List.length e9; first | (simp at e8; done) | ((try simp only [List.length_map, List.length_append] at e8); rw [List.length_nil] at e8; omega))) ?_)); (first | refine h9 _ _ (arun_slots (by first | (dsimp only [sput, sset]; done) | rfl) ?_)); clear h9 K9)
    | (refine arun_end ?_)
    | (refine awp_seq fun K hK => ?_)
    | (refine awp_region ?_)
    | (refine hK _ _ ?_; clear hK K)
    | (refine awp_cond rfl (fun hcnd => ?_) (fun hcnd => ?_) <;> (try simp at hcnd) <;> (try contradiction) <;> (try (exfalso; omega)))
    | (refine awp_skip ?_)
    | (refine awp_ret ?_; refine ret_go ?_)
    | (refine fall_go ?_)
    | (simp only [athen_normal, athen_exit, athen_ret, ablock_self, ablock_ne, ablock_normal, ablock_ret, Nat.reduceBEq])
    | (clear hK K; refine hK _ _ ?_; clear hK K)
    | (clear hK K; clear hK K; refine hK _ _ ?_; clear hK K)
    | (clear hK K; clear hK K; clear hK K; refine hK _ _ ?_; clear hK K)
    | (clear hK K; clear hK K; clear hK K; clear hK K; refine hK _ _ ?_; clear hK K)
    | (clear hK K; clear hK K; clear hK K; clear hK K; clear hK K; refine hK _ _ ?_; clear hK K))
  · simp
    exact .pure .int
  · exact .int
theorem leaves_zero : PCall Try.prog 27 [.rptr zR] (.int .i64 0) := by
  refine pcall_body Try.func27 rfl Try.call27 ?_ ?_
  rotate_left 1
  refine awp_slots (s' := [(.rptr zR : V), .junk, .junk, .junk, .junk, .junk, .junk, .junk, .junk, .junk, .junk, .junk]) rfl ?_
  unfold zR
  repeat' (first
    | (refine arun_go0 rfl fun K9 h9 => ?_; simp (disch := (first | (simp; done) | omega | (simp; omega))) ; (try simp (disch := (first | omega | (simp; omega))) only [wrap_i64, wrap_u8, wrap_u32, wrap_u64, Int.tmod_eq_emod_of_nonneg, Int.tdiv_eq_ediv_of_nonneg]); (first | refine acall_pure (valid_zero .nils (.str []) (.int .i64 0)) (by simp) ?_ | skip); (repeat (refine And.intro (by first | omega | (simp; first | done | omega) | assumption | (intro e9; have e8 := congrArg List.length e9; first | (simp at e8; done) | ((try simp only [List.length_map, List.length_append] at e8); rw [List.length_nil] at e8; omega))) ?_)); (first | refine h9 _ _ (arun_slots (by first | (dsimp only [sput, sset]; done) | rfl) ?_)); clear h9 K9)
    | (refine arun_end ?_)
    | (refine awp_seq fun K hK => ?_)
    | (refine awp_region ?_)
    | (refine hK _ _ ?_; clear hK K)
    | (refine awp_cond rfl (fun hcnd => ?_) (fun hcnd => ?_) <;> (try simp at hcnd) <;> (try contradiction) <;> (try (exfalso; omega)))
    | (refine awp_skip ?_)
    | (refine awp_ret ?_; refine ret_go ?_)
    | (refine fall_go ?_)
    | (simp only [athen_normal, athen_exit, athen_ret, ablock_self, ablock_ne, ablock_normal, ablock_ret, Nat.reduceBEq])
    | (clear hK K; refine hK _ _ ?_; clear hK K)
    | (clear hK K; clear hK K; refine hK _ _ ?_; clear hK K)
    | (clear hK K; clear hK K; clear hK K; refine hK _ _ ?_; clear hK K)
    | (clear hK K; clear hK K; clear hK K; clear hK K; refine hK _ _ ?_; clear hK K)
    | (clear hK K; clear hK K; clear hK K; clear hK K; clear hK K; refine hK _ _ ?_; clear hK K))
  · simp
    exact .pure .int
  · exact .int
theorem leaves_nil : PCall Try.prog 27 [.nilp] (.int .i64 0) := by
  refine pcall_body Try.func27 rfl Try.call27 ?_ ?_
  rotate_left 1
  refine awp_slots (s' := [(.nilp : V), .junk, .junk, .junk, .junk, .junk, .junk, .junk, .junk, .junk, .junk, .junk]) rfl ?_
  repeat' (first
    | (refine arun_go0 rfl fun K9 h9 => ?_; simp (disch := (first | (simp; done) | omega | (simp; omega))) ; (try simp (disch := (first | omega | (simp; omega))) only [wrap_i64, wrap_u8, wrap_u32, wrap_u64, Int.tmod_eq_emod_of_nonneg, Int.tdiv_eq_ediv_of_nonneg]); (first | refine acall_pure (valid_nil) (by simp) ?_ | skip); (repeat (refine And.intro (by first | omega | (simp; first | done | omega) | assumption | (intro e9; have e8 := congrArg List.length e9; first | (simp at e8; done) | ((try simp only [List.length_map, List.length_append] at e8); rw [List.length_nil] at e8; omega))) ?_)); (first | refine h9 _ _ (arun_slots (by first | (dsimp only [sput, sset]; done) | rfl) ?_)); clear h9 K9)
    | (refine arun_end ?_)
    | (refine awp_seq fun K hK => ?_)
    | (refine awp_region ?_)
    | (refine hK _ _ ?_; clear hK K)
    | (refine awp_cond rfl (fun hcnd => ?_) (fun hcnd => ?_) <;> (try simp at hcnd) <;> (try contradiction) <;> (try (exfalso; omega)))
    | (refine awp_skip ?_)
    | (refine awp_ret ?_; refine ret_go ?_)
    | (refine fall_go ?_)
    | (simp only [athen_normal, athen_exit, athen_ret, ablock_self, ablock_ne, ablock_normal, ablock_ret, Nat.reduceBEq])
    | (clear hK K; refine hK _ _ ?_; clear hK K)
    | (clear hK K; clear hK K; refine hK _ _ ?_; clear hK K)
    | (clear hK K; clear hK K; clear hK K; refine hK _ _ ?_; clear hK K)
    | (clear hK K; clear hK K; clear hK K; clear hK K; refine hK _ _ ?_; clear hK K)
    | (clear hK K; clear hK K; clear hK K; clear hK K; clear hK K; refine hK _ _ ?_; clear hK K))
  · simp
    exact .pure .int
  · exact .int

theorem root_call (seed : List UInt8) (h : Nat) (hh : h ≤ 8) : PCall Try.prog 54 [.agg [.sl (h + 1) (lvVs seed h (h + 1))]] (.str (rootS (idS seed) seed h)) := by
  refine pcall_body Try.func54 rfl Try.call54 ?_ ?_
  rotate_left 1
  refine awp_slots (s' := [(.agg [.sl (h + 1) (lvVs seed h (h + 1))] : V), .junk, .junk, .junk, .junk, .junk, .junk, .junk, .junk, .junk, .junk, .junk, .junk]) rfl ?_
  have hg : (lvVs seed h (h + 1))[h]? = some (.sl 1 [.str (rootS (idS seed) seed h)]) := by rw [lvVs_get seed h (h + 1) h (by omega), lvl_top]; rfl
  generalize lvVs seed h (h + 1) = L at *
  repeat' (first
    | (refine arun_go0 rfl fun K9 h9 => ?_; simp (disch := (first | (simp; done) | omega | (simp; omega))) [hg]; (try simp (disch := (first | omega | (simp; omega))) only [wrap_i64, wrap_u8, wrap_u32, wrap_u64, Int.tmod_eq_emod_of_nonneg, Int.tdiv_eq_ediv_of_nonneg]); (repeat (refine And.intro (by first | omega | (simp; first | done | omega) | assumption | (intro e9; have e8 := congrArg List.length e9; first | (simp at e8; done) | ((try simp only [List.length_map, List.length_append] at e8); rw [List.length_nil] at e8; omega))) ?_)); (first | refine h9 _ _ (arun_slots (by first | (dsimp only [sput, sset]; done) | rfl) ?_)); clear h9 K9)
    | (refine arun_end ?_)
    | (refine awp_seq fun K hK => ?_)
    | (refine awp_region ?_)
    | (refine hK _ _ ?_; clear hK K)
    | (refine awp_ret ?_; refine ret_go ?_)
    | (refine fall_go ?_)
    | (simp only [athen_normal, athen_exit, athen_ret, ablock_self, ablock_ne, ablock_normal, ablock_ret, Nat.reduceBEq])
    | (clear hK K; refine hK _ _ ?_; clear hK K)
    | (clear hK K; clear hK K; refine hK _ _ ?_; clear hK K)
    | (clear hK K; clear hK K; clear hK K; refine hK _ _ ?_; clear hK K)
    | (clear hK K; clear hK K; clear hK K; clear hK K; refine hK _ _ ?_; clear hK K)
    | (clear hK K; clear hK K; clear hK K; clear hK K; clear hK K; refine hK _ _ ?_; clear hK K))
  · (try simp)
    exact .pure .str
  · exact .str
end Go.Proofs.Ythcdofbmmibgjaa
namespace Go.Proofs.Ythcdofbmmibgjaa
open Go.VS
set_option linter.all false
attribute [local irreducible] arun arunD AWp aend shaS shaT

theorem pubV_leaf (id seed : List UInt8) (i : Nat) (hi : id.length = 16) (hs : seed.length = 32) (hl : i < 256) : pubV id seed i = .tup [.str (leafS id seed i), .int .i64 0] := by
  rw [pubV, if_pos]
  · rfl
  · unfold seedE leafE; rw [if_neg (by omega), if_neg (by omega), if_neg (by omega)]

theorem aeqL_nils (d : Nat) : aeq Try.prog (d + 1) 45 .nils .nils = some true := aeq_nils (e := 30) (by kernel_rfl)
theorem aeqL_sl (d n : Nat) (c : List V) : aeq Try.prog (d + 1) 45 (.sl (n + 1) c) .nils = some false := aeq_sl_nils (e := 30) (by kernel_rfl)
theorem strs_get (L : List (List UInt8)) (i : Nat) (h : i < L.length) : (L.map V.str)[i]? = some (.str (L.getD i [])) := by
  simp [List.getD_eq_getElem?_getD, h]
theorem getD_get {L : List (List UInt8)} {i : Nat} (h : i < L.length) : L.getD i [] = L[i] := by simp [List.getD_eq_getElem?_getD, h]
theorem getD_16 {L : List (List UInt8)} (hL : ∀ x ∈ L, x.length = 16) {i : Nat} (h : i < L.length) : (L.getD i []).length = 16 := by
  rw [List.getD_eq_getElem?_getD, List.getElem?_eq_getElem h]; exact hL _ (List.getElem_mem _)

set_option maxRecDepth 100000 in
set_option maxHeartbeats 4000000 in
theorem grow_call (seed : List UInt8) (h : Nat) (g : Bool) (hs : seed.length = 32) (hh : h ≤ 8) : MCall Try.prog 53 [.ref 0 0] (trR seed h g) (trR seed h true) (.tup []) := by
  refine mcall_body Try.func53 rfl Try.call53 ?_ ?_ ?_
  rotate_left 2
  refine awp_slots (s' := ((.ref 0 0 : V) :: V.junk :: V.junk :: V.junk :: V.junk :: V.junk :: V.junk :: V.junk :: V.junk :: V.junk :: V.junk :: V.junk :: V.junk :: V.junk :: V.junk :: V.junk :: V.junk :: V.junk :: V.junk :: V.junk :: V.junk :: V.junk :: V.junk :: V.junk :: V.junk :: V.junk :: V.junk :: V.junk :: V.junk :: V.junk :: V.junk :: V.junk :: V.junk :: V.junk :: V.junk :: V.junk :: V.junk :: V.junk :: V.junk :: V.junk :: V.junk :: V.junk :: V.junk :: V.junk :: V.junk :: V.junk :: V.junk :: V.junk :: V.junk :: V.junk :: V.junk :: V.junk :: V.junk :: V.junk :: V.junk :: V.junk :: V.junk :: V.junk :: V.junk :: V.junk :: V.junk :: V.junk :: V.junk :: V.junk :: V.junk :: V.junk :: V.junk :: V.junk :: V.junk :: V.junk :: V.junk :: V.junk :: V.junk :: V.junk :: V.junk :: V.junk :: V.junk :: V.junk :: V.junk :: V.junk :: V.junk :: V.junk :: V.junk :: V.junk :: V.junk :: V.junk :: V.junk :: V.junk :: V.junk :: V.junk :: V.junk :: V.junk :: V.junk :: V.junk :: V.junk :: V.junk :: V.junk :: [])) rfl ?_
  have hsl := shl_one h hh
  have h256 := pow_le_256 hh
  have hid := idS_length seed
  obtain ⟨p, hp⟩ : ∃ p, 2 ^ h = p := ⟨_, rfl⟩
  have hl0 : lvl (idS seed) seed h 0 = lv0 (idS seed) seed p := by rw [lvl, hp]
  rw [hp] at hsl h256
  cases g with
  | true =>
    unfold trR
    repeat' (first
    | ((first | refine arun_go0 rfl fun K9 h9 => ?_ | refine arunD_goF rfl rfl fun K9 h9 => ?_ | refine arunD_goT rfl rfl fun K9 h9 => ?_); simp (disch := (first | (simp; done) | omega | (simp; omega))) [aeqL_sl]; (try simp (disch := (first | omega | (simp; omega))) only [wrap_i64, wrap_u8, wrap_u32, wrap_u64, Int.tmod_eq_emod_of_nonneg, Int.tdiv_eq_ediv_of_nonneg]); (repeat (refine And.intro (by first | omega | (simp; first | done | omega) | assumption | (intro e9; have e8 := congrArg List.length e9; first | (simp at e8; done) | ((try simp only [List.length_map, List.length_append] at e8); rw [List.length_nil] at e8; omega))) ?_)); (first | refine h9 _ _ (arun_slots (by first | (dsimp only [sput, sset]; done) | rfl) ?_) | refine h9 _ _ (arunD_slots' (by first | (dsimp only [sput, sset]; done) | rfl) (by first | (dsimp only [List.tail]; done) | rfl) ?_)); clear h9 K9)
    | (refine arun_end ?_)
    | (refine arunD_end ?_)
    | (refine awp_seq fun K hK => ?_)
    | (refine awp_region ?_)
    | (refine hK _ _ ?_; clear hK K)
    | ((first | refine awp_region_draw' (m := 0) (by decide +kernel) [] (by kernel_rfl) (by decide +kernel) ?_ | refine awp_region_draw' (m := 2) (by decide +kernel) [] (by kernel_rfl) (by decide +kernel) ?_); dsimp only [List.replicate, List.append_nil, List.cons_append, List.nil_append, List.length_cons, List.length_nil])
    | (refine awp_block ?_)
    | (refine awp_cond rfl (fun hcnd => ?_) (fun hcnd => ?_) <;> (try simp at hcnd) <;> (try contradiction) <;> (try (exfalso; omega)))
    | (refine awp_skip ?_)
    | (refine awp_exit ?_; simp only [athen_normal, athen_exit, athen_ret, ablock_self, ablock_ne, ablock_normal, ablock_ret, Nat.reduceBEq])
    | (refine awp_ret ?_; refine ret_go ?_)
    | (refine fall_go ?_)
    | (simp only [athen_normal, athen_exit, athen_ret, ablock_self, ablock_ne, ablock_normal, ablock_ret, Nat.reduceBEq])
    | (clear hK K; refine hK _ _ ?_; clear hK K)
    | (clear hK K; clear hK K; refine hK _ _ ?_; clear hK K)
    | (clear hK K; clear hK K; clear hK K; refine hK _ _ ?_; clear hK K)
    | (clear hK K; clear hK K; clear hK K; clear hK K; refine hK _ _ ?_; clear hK K)
    | (clear hK K; clear hK K; clear hK K; clear hK K; clear hK K; refine hK _ _ ?_; clear hK K))
    simp
    exact mend_plain
  | false =>
    rw [show trR seed h false = [.nils, .str seed, .str (idS seed), .int .i64 h] from rfl]
    repeat' (first
    | ((first | refine arun_go0 rfl fun K9 h9 => ?_ | refine arunD_goF rfl rfl fun K9 h9 => ?_ | refine arunD_goT rfl rfl fun K9 h9 => ?_); simp (disch := (first | (simp; done) | omega | (simp; omega))) [aeqL_nils]; (try simp (disch := (first | omega | (simp; omega))) only [wrap_i64, wrap_u8, wrap_u32, wrap_u64, Int.tmod_eq_emod_of_nonneg, Int.tdiv_eq_ediv_of_nonneg]); (repeat (refine And.intro (by first | omega | (simp; first | done | omega) | assumption | (intro e9; have e8 := congrArg List.length e9; first | (simp at e8; done) | ((try simp only [List.length_map, List.length_append] at e8); rw [List.length_nil] at e8; omega))) ?_)); (first | refine h9 _ _ (arun_slots (by first | (dsimp only [sput, sset]; done) | rfl) ?_) | refine h9 _ _ (arunD_slots' (by first | (dsimp only [sput, sset]; done) | rfl) (by first | (dsimp only [List.tail]; done) | rfl) ?_)); clear h9 K9)
    | (refine arun_end ?_)
    | (refine arunD_end ?_)
    | (refine awp_seq fun K hK => ?_)
    | (refine awp_region ?_)
    | (refine hK _ _ ?_; clear hK K)
    | ((first | refine awp_region_draw' (m := 0) (by decide +kernel) [] (by kernel_rfl) (by decide +kernel) ?_ | refine awp_region_draw' (m := 2) (by decide +kernel) [] (by kernel_rfl) (by decide +kernel) ?_); dsimp only [List.replicate, List.append_nil, List.cons_append, List.nil_append, List.length_cons, List.length_nil])
    | (refine awp_block ?_)
    | (refine awp_cond rfl (fun hcnd => ?_) (fun hcnd => ?_) <;> (try simp at hcnd) <;> (try contradiction) <;> (try (exfalso; omega)))
    | (refine awp_skip ?_)
    | (refine awp_exit ?_; simp only [athen_normal, athen_exit, athen_ret, ablock_self, ablock_ne, ablock_normal, ablock_ret, Nat.reduceBEq])
    | (refine awp_ret ?_; refine ret_go ?_)
    | (refine fall_go ?_)
    | (simp only [athen_normal, athen_exit, athen_ret, ablock_self, ablock_ne, ablock_normal, ablock_ret, Nat.reduceBEq])
    | (clear hK K; refine hK _ _ ?_; clear hK K)
    | (clear hK K; clear hK K; refine hK _ _ ?_; clear hK K)
    | (clear hK K; clear hK K; clear hK K; refine hK _ _ ?_; clear hK K)
    | (clear hK K; clear hK K; clear hK K; clear hK K; refine hK _ _ ?_; clear hK K)
    | (clear hK K; clear hK K; clear hK K; clear hK K; clear hK K; refine hK _ _ ?_; clear hK K))
    refine awp_countU (fun k => (none :: none :: some (V.osl 1 0 k 1) :: some (V.int .i64 k) :: some V.junk :: some V.junk :: some V.junk :: some V.junk :: some V.junk :: some V.junk :: some V.junk :: some V.junk :: some V.junk :: some V.junk :: some V.junk :: some V.junk :: some V.junk :: some V.junk :: some V.junk :: some V.junk :: some V.junk :: some V.junk :: some V.junk :: some V.junk :: some V.junk :: some V.junk :: some V.junk :: some V.junk :: some V.junk :: some V.junk :: some V.junk :: some V.junk :: some V.junk :: some V.junk :: some V.junk :: some V.junk :: some V.junk :: some V.junk :: some V.junk :: some V.junk :: some V.junk :: some V.junk :: some V.junk :: some V.junk :: some V.junk :: some V.junk :: some V.junk :: some V.junk :: some V.junk :: some V.junk :: some V.junk :: some V.junk :: some V.junk :: some V.junk :: some V.junk :: some V.junk :: some V.junk :: some V.junk :: some V.junk :: some V.junk :: some V.junk :: some V.junk :: some V.junk :: some V.junk :: some V.junk :: some V.junk :: some V.junk :: some V.junk :: some V.junk :: some V.junk :: some V.junk :: some V.junk :: some V.junk :: some V.junk :: some V.junk :: some V.junk :: some V.junk :: some V.junk :: some V.junk :: some V.junk :: some V.junk :: some V.junk :: some V.junk :: some V.junk :: some V.junk :: some V.junk :: some V.junk :: some V.junk :: some V.junk :: some V.junk :: some V.junk :: some V.junk :: some V.junk :: some V.junk :: some V.junk :: some V.junk :: some V.junk :: [])) (fun k => [.live [.nils, .str seed, .str (idS seed), .int .i64 h], .live ((lv0 (idS seed) seed k).map V.str)]) p ?_ fun k hk KL hL => ?_
    · dsimp only [ups_some, ups_none, ups_nil, ups_nil']
      exact Le.mk [some 0, none] (by simp) (rowsRen_of (by simp) (by simp [rowsOver, lv0])) (by simp)
    dsimp only [ups_some, ups_none, ups_nil, ups_nil']
    have e4 : List.take k (List.map V.str (lv0 (idS seed) seed k)) = List.map V.str (lv0 (idS seed) seed k) := List.take_of_length_le (by simp)
    rcases Nat.lt_or_ge k p with hk | hk
    · have hpv := pubV_leaf (idS seed) seed k hid hs (by omega)
      have hop := opublic_call (idS seed) seed k (by simp) (by omega)
      rw [hpv] at hop
      repeat' (first
    | ((first | refine arun_go0 rfl fun K9 h9 => ?_ | refine arunD_goF rfl rfl fun K9 h9 => ?_ | refine arunD_goT rfl rfl fun K9 h9 => ?_); simp (disch := (first | (simp; done) | omega | (simp; omega))) [hsl, e4]; (try simp (disch := (first | omega | (simp; omega))) only [wrap_i64, wrap_u8, wrap_u32, wrap_u64, Int.tmod_eq_emod_of_nonneg, Int.tdiv_eq_ediv_of_nonneg]); (first | refine acall_pure (hop) (by simp) ?_ | skip); (repeat (refine And.intro (by first | omega | (simp; first | done | omega) | assumption | (intro e9; have e8 := congrArg List.length e9; first | (simp at e8; done) | ((try simp only [List.length_map, List.length_append] at e8); rw [List.length_nil] at e8; omega))) ?_)); (first | refine h9 _ _ (arun_slots (by first | (dsimp only [sput, sset]; done) | rfl) ?_) | refine h9 _ _ (arunD_slots' (by first | (dsimp only [sput, sset]; done) | rfl) (by first | (dsimp only [List.tail]; done) | rfl) ?_)); clear h9 K9)
    | (refine arun_end ?_)
    | (refine arunD_end ?_)
    | (refine awp_seq fun K hK => ?_)
    | (refine awp_region ?_)
    | (refine hK _ _ ?_; clear hK K)
    | ((first | refine awp_region_draw' (m := 0) (by decide +kernel) [] (by kernel_rfl) (by decide +kernel) ?_ | refine awp_region_draw' (m := 2) (by decide +kernel) [] (by kernel_rfl) (by decide +kernel) ?_); dsimp only [List.replicate, List.append_nil, List.cons_append, List.nil_append, List.length_cons, List.length_nil])
    | (refine awp_block ?_)
    | (refine awp_cond rfl (fun hcnd => ?_) (fun hcnd => ?_) <;> (try simp at hcnd) <;> (try contradiction) <;> (try (exfalso; omega)))
    | (refine awp_skip ?_)
    | (refine awp_exit ?_; simp only [athen_normal, athen_exit, athen_ret, ablock_self, ablock_ne, ablock_normal, ablock_ret, Nat.reduceBEq])
    | (refine awp_ret ?_; refine ret_go ?_)
    | (refine fall_go ?_)
    | (simp only [athen_normal, athen_exit, athen_ret, ablock_self, ablock_ne, ablock_normal, ablock_ret, Nat.reduceBEq])
    | (clear hK K; refine hK _ _ ?_; clear hK K)
    | (clear hK K; clear hK K; refine hK _ _ ?_; clear hK K)
    | (clear hK K; clear hK K; clear hK K; refine hK _ _ ?_; clear hK K)
    | (clear hK K; clear hK K; clear hK K; clear hK K; refine hK _ _ ?_; clear hK K)
    | (clear hK K; clear hK K; clear hK K; clear hK K; clear hK K; refine hK _ _ ?_; clear hK K))
      refine hL _ _ hk ?_
      exact Le.mk [some 0, some 3] (by dsimp only [ups_some, ups_none, ups_nil, ups_nil']; simp) (rowsRen_of (by simp) (by simp [rowsOver, lv0_succ])) (by simp)
    obtain rfl : k = p := by omega
    refine awp_freeze' 1 rfl (by simp) (by simp [fz, e4]; rfl) (by simp [fzRow, fz]; rfl) ?_
    repeat' (first
    | ((first | refine arun_go0 rfl fun K9 h9 => ?_ | refine arunD_goF rfl rfl fun K9 h9 => ?_ | refine arunD_goT rfl rfl fun K9 h9 => ?_); simp (disch := (first | (simp; done) | omega | (simp; omega))) [hsl]; (try simp (disch := (first | omega | (simp; omega))) only [wrap_i64, wrap_u8, wrap_u32, wrap_u64, Int.tmod_eq_emod_of_nonneg, Int.tdiv_eq_ediv_of_nonneg]); (repeat (refine And.intro (by first | omega | (simp; first | done | omega) | assumption | (intro e9; have e8 := congrArg List.length e9; first | (simp at e8; done) | ((try simp only [List.length_map, List.length_append] at e8); rw [List.length_nil] at e8; omega))) ?_)); (first | refine h9 _ _ (arun_slots (by first | (dsimp only [sput, sset]; done) | rfl) ?_) | refine h9 _ _ (arunD_slots' (by first | (dsimp only [sput, sset]; done) | rfl) (by first | (dsimp only [List.tail]; done) | rfl) ?_)); clear h9 K9)
    | (refine arun_end ?_)
    | (refine arunD_end ?_)
    | (refine awp_seq fun K hK => ?_)
    | (refine awp_region ?_)
    | (refine hK _ _ ?_; clear hK K)
    | ((first | refine awp_region_draw' (m := 0) (by decide +kernel) [] (by kernel_rfl) (by decide +kernel) ?_ | refine awp_region_draw' (m := 2) (by decide +kernel) [] (by kernel_rfl) (by decide +kernel) ?_); dsimp only [List.replicate, List.append_nil, List.cons_append, List.nil_append, List.length_cons, List.length_nil])
    | (refine awp_block ?_)
    | (refine awp_cond rfl (fun hcnd => ?_) (fun hcnd => ?_) <;> (try simp at hcnd) <;> (try contradiction) <;> (try (exfalso; omega)))
    | (refine awp_skip ?_)
    | (refine awp_exit ?_; simp only [athen_normal, athen_exit, athen_ret, ablock_self, ablock_ne, ablock_normal, ablock_ret, Nat.reduceBEq])
    | (refine awp_ret ?_; refine ret_go ?_)
    | (refine fall_go ?_)
    | (simp only [athen_normal, athen_exit, athen_ret, ablock_self, ablock_ne, ablock_normal, ablock_ret, Nat.reduceBEq])
    | (clear hK K; refine hK _ _ ?_; clear hK K)
    | (clear hK K; clear hK K; refine hK _ _ ?_; clear hK K)
    | (clear hK K; clear hK K; clear hK K; refine hK _ _ ?_; clear hK K)
    | (clear hK K; clear hK K; clear hK K; clear hK K; refine hK _ _ ?_; clear hK K)
    | (clear hK K; clear hK K; clear hK K; clear hK K; clear hK K; refine hK _ _ ?_; clear hK K))
    refine awp_countU (fun l => (none :: none :: some (strsV (lvl (idS seed) seed h l)) :: some V.junk :: some V.junk :: some V.junk :: some (V.int .i64 l) :: some V.junk :: some V.junk :: some V.junk :: some V.junk :: some V.junk :: some V.junk :: some V.junk :: some V.junk :: some V.junk :: some V.junk :: some V.junk :: some V.junk :: some V.junk :: some V.junk :: some V.junk :: some V.junk :: some V.junk :: some V.junk :: some V.junk :: some V.junk :: some V.junk :: some V.junk :: some V.junk :: some V.junk :: some V.junk :: some V.junk :: some V.junk :: some V.junk :: some V.junk :: some V.junk :: some V.junk :: some V.junk :: some V.junk :: some V.junk :: some V.junk :: some V.junk :: some V.junk :: some V.junk :: some V.junk :: some V.junk :: some V.junk :: some V.junk :: some V.junk :: some V.junk :: some V.junk :: some V.junk :: some V.junk :: some V.junk :: some V.junk :: some V.junk :: some V.junk :: some V.junk :: some V.junk :: some V.junk :: some V.junk :: some V.junk :: some V.junk :: some V.junk :: some V.junk :: some V.junk :: some V.junk :: some V.junk :: some V.junk :: some V.junk :: some V.junk :: some V.junk :: some V.junk :: some V.junk :: some V.junk :: some V.junk :: some V.junk :: some V.junk :: some V.junk :: some V.junk :: some V.junk :: some V.junk :: some V.junk :: some V.junk :: some V.junk :: some V.junk :: some V.junk :: some V.junk :: some V.junk :: some V.junk :: some V.junk :: some V.junk :: some V.junk :: some V.junk :: some V.junk :: some V.junk :: [])) (fun l => [.live [.osl 1 0 (l + 1) 1, .str seed, .str (idS seed), .int .i64 h], .live (lvVs seed h (l + 1))]) h ?_ fun l hl KO hO => ?_
    · dsimp only [ups_some, ups_none, ups_nil, ups_nil']
      exact Le.mk [some 0, some 2] (by simp [strsV, hl0]) (rowsRen_of (by simp) (by simp [rowsOver, rowRen_live, lvVs, strsV, hl0])) (by simp)
    dsimp only [ups_some, ups_none, ups_nil, ups_nil']
    rcases Nat.lt_or_ge l h with hl | hl
    · have hlen := lvl_length (idS seed) seed h l (by omega)
      have h16 := lvl_16 (idS seed) seed h l
      have hpl : (lvl (idS seed) seed h l).length ≤ 256 := by rw [hlen]; exact pow_le_256 (by omega)
      have hvs := lvVs_succ seed h (l + 1)
      rw [show lvl (idS seed) seed h (l + 1) = nx (idS seed) l (lvl (idS seed) seed h l) ((lvl (idS seed) seed h l).length / 2) from rfl] at hvs
      have e5 : List.take (l + 1) (lvVs seed h (l + 1)) = lvVs seed h (l + 1) := List.take_of_length_le (by simp)
      rw [show lvl (idS seed) seed h (l + 1) = nx (idS seed) l (lvl (idS seed) seed h l) ((lvl (idS seed) seed h l).length / 2) from rfl] at hO
      have hol : (lvVs seed h (l + 1)).all V.one = true := by
        rw [List.all_eq_true]; intro x hx; obtain ⟨j, -, rfl⟩ := List.mem_map.1 hx; rfl
      have hvp := lvVs_pures seed h (l + 1)
      have hvl := lvVs_length seed h (l + 1)
      rw [hvs] at hO
      generalize lvl (idS seed) seed h l = L at *
      generalize lvVs seed h (l + 1) = Z at *
      unfold strsV
      repeat' (first
    | ((first | refine arun_go0 rfl fun K9 h9 => ?_ | refine arunD_goF rfl rfl fun K9 h9 => ?_ | refine arunD_goT rfl rfl fun K9 h9 => ?_); simp (disch := (first | (simp; done) | omega | (simp; omega))) ; (try simp (disch := (first | omega | (simp; omega))) only [wrap_i64, wrap_u8, wrap_u32, wrap_u64, Int.tmod_eq_emod_of_nonneg, Int.tdiv_eq_ediv_of_nonneg]); (repeat (refine And.intro (by first | omega | (simp; first | done | omega) | assumption | (intro e9; have e8 := congrArg List.length e9; first | (simp at e8; done) | ((try simp only [List.length_map, List.length_append] at e8); rw [List.length_nil] at e8; omega))) ?_)); (first | refine h9 _ _ (arun_slots (by first | (dsimp only [sput, sset]; done) | rfl) ?_) | refine h9 _ _ (arunD_slots' (by first | (dsimp only [sput, sset]; done) | rfl) (by first | (dsimp only [List.tail]; done) | rfl) ?_)); clear h9 K9)
    | (refine arun_end ?_)
    | (refine arunD_end ?_)
    | (refine awp_seq fun K hK => ?_)
    | (refine awp_region ?_)
    | (refine hK _ _ ?_; clear hK K)
    | ((first | refine awp_region_draw' (m := 0) (by decide +kernel) [] (by kernel_rfl) (by decide +kernel) ?_ | refine awp_region_draw' (m := 2) (by decide +kernel) [] (by kernel_rfl) (by decide +kernel) ?_); dsimp only [List.replicate, List.append_nil, List.cons_append, List.nil_append, List.length_cons, List.length_nil])
    | (refine awp_block ?_)
    | (refine awp_cond rfl (fun hcnd => ?_) (fun hcnd => ?_) <;> (try simp at hcnd) <;> (try contradiction) <;> (try (exfalso; omega)))
    | (refine awp_skip ?_)
    | (refine awp_exit ?_; simp only [athen_normal, athen_exit, athen_ret, ablock_self, ablock_ne, ablock_normal, ablock_ret, Nat.reduceBEq])
    | (refine awp_ret ?_; refine ret_go ?_)
    | (refine fall_go ?_)
    | (simp only [athen_normal, athen_exit, athen_ret, ablock_self, ablock_ne, ablock_normal, ablock_ret, Nat.reduceBEq])
    | (clear hK K; refine hK _ _ ?_; clear hK K)
    | (clear hK K; clear hK K; refine hK _ _ ?_; clear hK K)
    | (clear hK K; clear hK K; clear hK K; refine hK _ _ ?_; clear hK K)
    | (clear hK K; clear hK K; clear hK K; clear hK K; refine hK _ _ ?_; clear hK K)
    | (clear hK K; clear hK K; clear hK K; clear hK K; clear hK K; refine hK _ _ ?_; clear hK K))
      refine awp_countU (fun k => (none :: none :: none :: some V.junk :: some V.junk :: some V.junk :: none :: some (V.osl 2 0 k 1) :: some (V.int .i64 k) :: some V.junk :: some V.junk :: some V.junk :: some V.junk :: some V.junk :: some V.junk :: some V.junk :: some V.junk :: some V.junk :: some V.junk :: some V.junk :: some V.junk :: some V.junk :: some V.junk :: some V.junk :: some V.junk :: some V.junk :: some V.junk :: some V.junk :: some V.junk :: some V.junk :: some V.junk :: some V.junk :: some V.junk :: some V.junk :: some V.junk :: some V.junk :: some V.junk :: some V.junk :: some V.junk :: some V.junk :: some V.junk :: some V.junk :: some V.junk :: some V.junk :: some V.junk :: some V.junk :: some V.junk :: some V.junk :: some V.junk :: some V.junk :: some V.junk :: some V.junk :: some V.junk :: some V.junk :: some V.junk :: some V.junk :: some V.junk :: some V.junk :: some V.junk :: some V.junk :: some V.junk :: some V.junk :: some V.junk :: some V.junk :: some V.junk :: some V.junk :: some V.junk :: some V.junk :: some V.junk :: some V.junk :: some V.junk :: some V.junk :: some V.junk :: some V.junk :: some V.junk :: some V.junk :: some V.junk :: some V.junk :: some V.junk :: some V.junk :: some V.junk :: some V.junk :: some V.junk :: some V.junk :: some V.junk :: some V.junk :: some V.junk :: some V.junk :: some V.junk :: some V.junk :: some V.junk :: some V.junk :: some V.junk :: some V.junk :: some V.junk :: some V.junk :: some V.junk :: [])) (fun k => [.live [.osl 1 0 (l + 1) 1, .str seed, .str (idS seed), .int .i64 h], .live Z, .live ((nx (idS seed) l L k).map V.str)]) (L.length / 2) ?_ fun k hk KL hL => ?_
      · dsimp only [ups_some, ups_none, ups_nil, ups_nil']
        exact Le.mk [some 0, some 1, none] (by simp) (rowsRen_of (by simp) (by simp [rowsOver, rowRen_live, hvp, nx])) (by simp)
      dsimp only [ups_some, ups_none, ups_nil, ups_nil']
      have e6 : List.take k (List.map V.str (nx (idS seed) l L k)) = List.map V.str (nx (idS seed) l L k) := List.take_of_length_le (by simp)
      rcases Nat.lt_or_ge k (L.length / 2) with hk | hk
      · have b1 : 2 * k < L.length := by omega
        have b2 : 2 * k + 1 < L.length := by omega
        have hn := nx_succ (idS seed) l L k
        rw [getD_get b1, getD_get b2] at hn
        have q1 := h16 _ (List.getElem_mem b1)
        have q2 := h16 _ (List.getElem_mem b2)
        have t1 : ((2 : Int) * (k : Int)).toNat = 2 * k := by omega
        have t2 : ((2 : Int) * (k : Int) + 1).toNat = 2 * k + 1 := by omega
        have hpc := parent_call (idS seed) l k L[2 * k] L[2 * k + 1] (by simp) (by omega) (by omega)
        repeat' (first
    | ((first | refine arun_go0 rfl fun K9 h9 => ?_ | refine arunD_goF rfl rfl fun K9 h9 => ?_ | refine arunD_goT rfl rfl fun K9 h9 => ?_); simp (disch := (first | (simp; done) | omega | (simp; omega))) [e6, t1, t2]; (try simp (disch := (first | omega | (simp; omega))) only [wrap_i64, wrap_u8, wrap_u32, wrap_u64, Int.tmod_eq_emod_of_nonneg, Int.tdiv_eq_ediv_of_nonneg]); (first | refine acall_pure (hpc) (by simp) ?_ | skip); (repeat (refine And.intro (by first | omega | (simp; first | done | omega) | assumption | (intro e9; have e8 := congrArg List.length e9; first | (simp at e8; done) | ((try simp only [List.length_map, List.length_append] at e8); rw [List.length_nil] at e8; omega))) ?_)); (first | refine h9 _ _ (arun_slots (by first | (dsimp only [sput, sset]; done) | rfl) ?_) | refine h9 _ _ (arunD_slots' (by first | (dsimp only [sput, sset]; done) | rfl) (by first | (dsimp only [List.tail]; done) | rfl) ?_)); clear h9 K9)
    | (refine arun_end ?_)
    | (refine arunD_end ?_)
    | (refine awp_seq fun K hK => ?_)
    | (refine awp_region ?_)
    | (refine hK _ _ ?_; clear hK K)
    | ((first | refine awp_region_draw' (m := 0) (by decide +kernel) [] (by kernel_rfl) (by decide +kernel) ?_ | refine awp_region_draw' (m := 2) (by decide +kernel) [] (by kernel_rfl) (by decide +kernel) ?_); dsimp only [List.replicate, List.append_nil, List.cons_append, List.nil_append, List.length_cons, List.length_nil])
    | (refine awp_block ?_)
    | (refine awp_cond rfl (fun hcnd => ?_) (fun hcnd => ?_) <;> (try simp at hcnd) <;> (try contradiction) <;> (try (exfalso; omega)))
    | (refine awp_skip ?_)
    | (refine awp_exit ?_; simp only [athen_normal, athen_exit, athen_ret, ablock_self, ablock_ne, ablock_normal, ablock_ret, Nat.reduceBEq])
    | (refine awp_ret ?_; refine ret_go ?_)
    | (refine fall_go ?_)
    | (simp only [athen_normal, athen_exit, athen_ret, ablock_self, ablock_ne, ablock_normal, ablock_ret, Nat.reduceBEq])
    | (clear hK K; refine hK _ _ ?_; clear hK K)
    | (clear hK K; clear hK K; refine hK _ _ ?_; clear hK K)
    | (clear hK K; clear hK K; clear hK K; refine hK _ _ ?_; clear hK K)
    | (clear hK K; clear hK K; clear hK K; clear hK K; refine hK _ _ ?_; clear hK K)
    | (clear hK K; clear hK K; clear hK K; clear hK K; clear hK K; refine hK _ _ ?_; clear hK K))
        refine hL _ _ hk ?_
        exact Le.mk [some 0, some 1, some 4] (by dsimp only [ups_some, ups_none, ups_nil, ups_nil']; simp) (rowsRen_of (by simp) (by simp [rowsOver, rowRen_live, hvp, hn])) (by simp)
      obtain rfl : k = L.length / 2 := by omega
      refine awp_freeze' 2 rfl (by simp) (by simp [fz, e6]; rfl) (by simp [fzRow, fz, fz_map hvp]; rfl) ?_
      repeat' (first
    | ((first | refine arun_go0 rfl fun K9 h9 => ?_ | refine arunD_goF rfl rfl fun K9 h9 => ?_ | refine arunD_goT rfl rfl fun K9 h9 => ?_); simp (disch := (first | (simp; done) | omega | (simp; omega))) [e5, hvl, hol]; (try simp (disch := (first | omega | (simp; omega))) only [wrap_i64, wrap_u8, wrap_u32, wrap_u64, Int.tmod_eq_emod_of_nonneg, Int.tdiv_eq_ediv_of_nonneg]); (repeat (refine And.intro (by first | omega | (simp; first | done | omega) | assumption | (intro e9; have e8 := congrArg List.length e9; first | (simp at e8; done) | ((try simp only [List.length_map, List.length_append] at e8); rw [List.length_nil] at e8; omega))) ?_)); (first | refine h9 _ _ (arun_slots (by first | (dsimp only [sput, sset]; done) | rfl) ?_) | refine h9 _ _ (arunD_slots' (by first | (dsimp only [sput, sset]; done) | rfl) (by first | (dsimp only [List.tail]; done) | rfl) ?_)); clear h9 K9)
    | (refine arun_end ?_)
    | (refine arunD_end ?_)
    | (refine awp_seq fun K hK => ?_)
    | (refine awp_region ?_)
    | (refine hK _ _ ?_; clear hK K)
    | ((first | refine awp_region_draw' (m := 0) (by decide +kernel) [] (by kernel_rfl) (by decide +kernel) ?_ | refine awp_region_draw' (m := 2) (by decide +kernel) [] (by kernel_rfl) (by decide +kernel) ?_); dsimp only [List.replicate, List.append_nil, List.cons_append, List.nil_append, List.length_cons, List.length_nil])
    | (refine awp_block ?_)
    | (refine awp_cond rfl (fun hcnd => ?_) (fun hcnd => ?_) <;> (try simp at hcnd) <;> (try contradiction) <;> (try (exfalso; omega)))
    | (refine awp_skip ?_)
    | (refine awp_exit ?_; simp only [athen_normal, athen_exit, athen_ret, ablock_self, ablock_ne, ablock_normal, ablock_ret, Nat.reduceBEq])
    | (refine awp_ret ?_; refine ret_go ?_)
    | (refine fall_go ?_)
    | (simp only [athen_normal, athen_exit, athen_ret, ablock_self, ablock_ne, ablock_normal, ablock_ret, Nat.reduceBEq])
    | (clear hK K; refine hK _ _ ?_; clear hK K)
    | (clear hK K; clear hK K; refine hK _ _ ?_; clear hK K)
    | (clear hK K; clear hK K; clear hK K; refine hK _ _ ?_; clear hK K)
    | (clear hK K; clear hK K; clear hK K; clear hK K; refine hK _ _ ?_; clear hK K)
    | (clear hK K; clear hK K; clear hK K; clear hK K; clear hK K; refine hK _ _ ?_; clear hK K))
      refine hO _ _ hl ?_
      exact Le.mk [some 0, some 4] (by dsimp only [ups_some, ups_none, ups_nil, ups_nil']; simp [strsV]) (rowsRen_of (by simp) (by simp [rowsOver, rowRen_live, hvp, strsV])) (by simp)
    obtain rfl : l = h := by omega
    repeat' (first
    | ((first | refine arun_go0 rfl fun K9 h9 => ?_ | refine arunD_goF rfl rfl fun K9 h9 => ?_ | refine arunD_goT rfl rfl fun K9 h9 => ?_); simp (disch := (first | (simp; done) | omega | (simp; omega))) ; (try simp (disch := (first | omega | (simp; omega))) only [wrap_i64, wrap_u8, wrap_u32, wrap_u64, Int.tmod_eq_emod_of_nonneg, Int.tdiv_eq_ediv_of_nonneg]); (repeat (refine And.intro (by first | omega | (simp; first | done | omega) | assumption | (intro e9; have e8 := congrArg List.length e9; first | (simp at e8; done) | ((try simp only [List.length_map, List.length_append] at e8); rw [List.length_nil] at e8; omega))) ?_)); (first | refine h9 _ _ (arun_slots (by first | (dsimp only [sput, sset]; done) | rfl) ?_) | refine h9 _ _ (arunD_slots' (by first | (dsimp only [sput, sset]; done) | rfl) (by first | (dsimp only [List.tail]; done) | rfl) ?_)); clear h9 K9)
    | (refine arun_end ?_)
    | (refine arunD_end ?_)
    | (refine awp_seq fun K hK => ?_)
    | (refine awp_region ?_)
    | (refine hK _ _ ?_; clear hK K)
    | ((first | refine awp_region_draw' (m := 0) (by decide +kernel) [] (by kernel_rfl) (by decide +kernel) ?_ | refine awp_region_draw' (m := 2) (by decide +kernel) [] (by kernel_rfl) (by decide +kernel) ?_); dsimp only [List.replicate, List.append_nil, List.cons_append, List.nil_append, List.length_cons, List.length_nil])
    | (refine awp_block ?_)
    | (refine awp_cond rfl (fun hcnd => ?_) (fun hcnd => ?_) <;> (try simp at hcnd) <;> (try contradiction) <;> (try (exfalso; omega)))
    | (refine awp_skip ?_)
    | (refine awp_exit ?_; simp only [athen_normal, athen_exit, athen_ret, ablock_self, ablock_ne, ablock_normal, ablock_ret, Nat.reduceBEq])
    | (refine awp_ret ?_; refine ret_go ?_)
    | (refine fall_go ?_)
    | (simp only [athen_normal, athen_exit, athen_ret, ablock_self, ablock_ne, ablock_normal, ablock_ret, Nat.reduceBEq])
    | (clear hK K; refine hK _ _ ?_; clear hK K)
    | (clear hK K; clear hK K; refine hK _ _ ?_; clear hK K)
    | (clear hK K; clear hK K; clear hK K; refine hK _ _ ?_; clear hK K)
    | (clear hK K; clear hK K; clear hK K; clear hK K; refine hK _ _ ?_; clear hK K)
    | (clear hK K; clear hK K; clear hK K; clear hK K; clear hK K; refine hK _ _ ?_; clear hK K))
    simp
    refine mend_fz 0 (cs := lvVs seed l (l + 1)) rfl (lvVs_pures seed l (l + 1)) ?_
    simp [trR, fz, List.take_of_length_le]
  · exact .tup (by simp)
  · simp
end Go.Proofs.Ythcdofbmmibgjaa
namespace Go.Proofs.Ythcdofbmmibgjaa
open Go.VS
set_option linter.all false
attribute [local irreducible] arun arunD AWp aend shaS shaT

section
variable {seed : List UInt8} {h : Nat} {g : Bool}
@[simp] theorem trR_length : (trR seed h g).length = 4 := rfl
@[simp] theorem trR_1 : (trR seed h g)[1]? = some (.str seed) := rfl
@[simp] theorem trR_2 : (trR seed h g)[2]? = some (.str (idS seed)) := rfl
@[simp] theorem trR_3 : (trR seed h g)[3]? = some (.int .i64 h) := rfl
@[simp] theorem trR_0 : (trR seed h true)[0]? = some (.sl (h + 1) (lvVs seed h (h + 1))) := rfl
@[simp] theorem trR_t1 : List.take 1 (trR seed h true) = [.sl (h + 1) (lvVs seed h (h + 1))] := rfl
@[simp] theorem trR_ne : trR seed h g ≠ [] := by simp [trR]
@[simp] theorem zR_ne : zR ≠ [] := by simp [zR]
end
theorem seed_ne {seed : List UInt8} (hs : seed.length = 32) : seed ≠ [] := by rintro rfl; simp at hs
theorem valid_tr (seed : List UInt8) (h : Nat) (g : Bool) (hs : seed.length = 32) : PCall Try.prog 52 [.rptr (trR seed h g)] (.bool true) := valid_call seed _ _ _ (seed_ne hs)

theorem key_call (seed : List UInt8) (h : Nat) (g : Bool) (hs : seed.length = 32) (hh : h ≤ 8) : MCall Try.prog 24 [.ref 0 0] (trR seed h g) (trR seed h true) (keyV h (idS seed) (rootS (idS seed) seed h)) := by
  refine mcall_body Try.func24 rfl Try.call24 ?_ ?_ ?_
  rotate_left 2
  refine awp_slots (s' := [(.ref 0 0 : V), .junk, .junk, .junk, .junk, .junk, .junk, .junk, .junk, .junk, .junk, .junk, .junk, .junk, .junk, .junk, .junk, .junk, .junk, .junk, .junk, .junk, .junk]) rfl ?_
  repeat' (first
    | ((first | refine arun_go0 rfl fun K9 h9 => ?_ | refine arunD_goF rfl rfl fun K9 h9 => ?_ | refine arunD_goT rfl rfl fun K9 h9 => ?_); simp (disch := (first | (simp; done) | omega | (simp; omega))) ; (try simp (disch := (first | omega | (simp; omega))) only [wrap_i64, wrap_u8, wrap_u32, wrap_u64, Int.tmod_eq_emod_of_nonneg, Int.tdiv_eq_ediv_of_nonneg]); (first | refine acall_view (valid_tr seed h g hs) ⟨view_ref rfl (by simp) (trR_pures _ _ _), trivial⟩ .bool ?_ | refine acall_mut 0 (grow_call seed h g hs hh) rfl (trR_pures _ _ _) (trR_pures _ _ _) (by simp) (by simp) ?_ | refine acall_pure (root_call seed h hh) (by simp) ?_ | skip); (repeat (refine And.intro (by first | omega | (simp; first | done | omega) | assumption | (intro e9; have e8 := congrArg List.length e9; first | (simp at e8; done) | ((try simp only [List.length_map, List.length_append] at e8); rw [List.length_nil] at e8; omega))) ?_)); (first | refine h9 _ _ (arun_slots (by first | (dsimp only [sput, sset]; done) | rfl) ?_) | refine h9 _ _ (arunD_slots' (by first | (dsimp only [sput, sset]; done) | rfl) (by first | (dsimp only [List.tail]; done) | rfl) ?_)); clear h9 K9)
    | (refine arun_end ?_)
    | (refine arunD_end ?_)
    | (refine awp_seq fun K hK => ?_)
    | (refine awp_region ?_)
    | (refine hK _ _ ?_; clear hK K)
    | ((first | refine awp_region_draw' (m := 0) (by decide +kernel) [] (by kernel_rfl) (by decide +kernel) ?_); dsimp only [List.replicate, List.append_nil, List.cons_append, List.nil_append, List.length_cons, List.length_nil])
    | (refine awp_cond rfl (fun hcnd => ?_) (fun hcnd => ?_) <;> (try simp at hcnd) <;> (try contradiction) <;> (try (exfalso; omega)))
    | (refine awp_skip ?_)
    | (refine awp_ret ?_; refine ret_go ?_)
    | (refine fall_go ?_)
    | (simp only [athen_normal, athen_exit, athen_ret, ablock_self, ablock_ne, ablock_normal, ablock_ret, Nat.reduceBEq])
    | (clear hK K; refine hK _ _ ?_; clear hK K)
    | (clear hK K; clear hK K; refine hK _ _ ?_; clear hK K)
    | (clear hK K; clear hK K; clear hK K; refine hK _ _ ?_; clear hK K)
    | (clear hK K; clear hK K; clear hK K; clear hK K; refine hK _ _ ?_; clear hK K)
    | (clear hK K; clear hK K; clear hK K; clear hK K; clear hK K; refine hK _ _ ?_; clear hK K))
  · simp [keyV]
    exact mend_plain
  · simp
  · simp
theorem key_zero : MCall Try.prog 24 [.ref 0 0] zR zR (keyV 0 [] []) := by
  refine mcall_body Try.func24 rfl Try.call24 ?_ ?_ ?_
  rotate_left 2
  refine awp_slots (s' := [(.ref 0 0 : V), .junk, .junk, .junk, .junk, .junk, .junk, .junk, .junk, .junk, .junk, .junk, .junk, .junk, .junk, .junk, .junk, .junk, .junk, .junk, .junk, .junk, .junk]) rfl ?_
  repeat' (first
    | ((first | refine arun_go0 rfl fun K9 h9 => ?_ | refine arunD_goF rfl rfl fun K9 h9 => ?_ | refine arunD_goT rfl rfl fun K9 h9 => ?_); simp (disch := (first | (simp; done) | omega | (simp; omega))) ; (try simp (disch := (first | omega | (simp; omega))) only [wrap_i64, wrap_u8, wrap_u32, wrap_u64, Int.tmod_eq_emod_of_nonneg, Int.tdiv_eq_ediv_of_nonneg]); (first | refine acall_view (valid_zero .nils (.str []) (.int .i64 0)) ⟨view_ref rfl zR_ne zR_pures, trivial⟩ .bool ?_ | skip); (repeat (refine And.intro (by first | omega | (simp; first | done | omega) | assumption | (intro e9; have e8 := congrArg List.length e9; first | (simp at e8; done) | ((try simp only [List.length_map, List.length_append] at e8); rw [List.length_nil] at e8; omega))) ?_)); (first | refine h9 _ _ (arun_slots (by first | (dsimp only [sput, sset]; done) | rfl) ?_) | refine h9 _ _ (arunD_slots' (by first | (dsimp only [sput, sset]; done) | rfl) (by first | (dsimp only [List.tail]; done) | rfl) ?_)); clear h9 K9)
    | (refine arun_end ?_)
    | (refine arunD_end ?_)
    | (refine awp_seq fun K hK => ?_)
    | (refine awp_region ?_)
    | (refine hK _ _ ?_; clear hK K)
    | ((first | refine awp_region_draw' (m := 0) (by decide +kernel) [] (by kernel_rfl) (by decide +kernel) ?_); dsimp only [List.replicate, List.append_nil, List.cons_append, List.nil_append, List.length_cons, List.length_nil])
    | (refine awp_cond rfl (fun hcnd => ?_) (fun hcnd => ?_) <;> (try simp at hcnd) <;> (try contradiction) <;> (try (exfalso; omega)))
    | (refine awp_skip ?_)
    | (refine awp_ret ?_; refine ret_go ?_)
    | (refine fall_go ?_)
    | (simp only [athen_normal, athen_exit, athen_ret, ablock_self, ablock_ne, ablock_normal, ablock_ret, Nat.reduceBEq])
    | (clear hK K; refine hK _ _ ?_; clear hK K)
    | (clear hK K; clear hK K; refine hK _ _ ?_; clear hK K)
    | (clear hK K; clear hK K; clear hK K; refine hK _ _ ?_; clear hK K)
    | (clear hK K; clear hK K; clear hK K; clear hK K; refine hK _ _ ?_; clear hK K)
    | (clear hK K; clear hK K; clear hK K; clear hK K; clear hK K; refine hK _ _ ?_; clear hK K))
  · simp [keyV]
    exact mend_plain
  · simp
  · simp
theorem key_nil : PCall Try.prog 24 [.nilp] (keyV 0 [] []) := by
  refine pcall_body Try.func24 rfl Try.call24 ?_ ?_
  rotate_left 1
  refine awp_slots (s' := [(.nilp : V), .junk, .junk, .junk, .junk, .junk, .junk, .junk, .junk, .junk, .junk, .junk, .junk, .junk, .junk, .junk, .junk, .junk, .junk, .junk, .junk, .junk, .junk]) rfl ?_
  repeat' (first
    | ((first | refine arun_go0 rfl fun K9 h9 => ?_ | refine arunD_goF rfl rfl fun K9 h9 => ?_ | refine arunD_goT rfl rfl fun K9 h9 => ?_); simp (disch := (first | (simp; done) | omega | (simp; omega))) ; (try simp (disch := (first | omega | (simp; omega))) only [wrap_i64, wrap_u8, wrap_u32, wrap_u64, Int.tmod_eq_emod_of_nonneg, Int.tdiv_eq_ediv_of_nonneg]); (first | refine acall_pure (valid_nil) (by simp) ?_ | skip); (repeat (refine And.intro (by first | omega | (simp; first | done | omega) | assumption | (intro e9; have e8 := congrArg List.length e9; first | (simp at e8; done) | ((try simp only [List.length_map, List.length_append] at e8); rw [List.length_nil] at e8; omega))) ?_)); (first | refine h9 _ _ (arun_slots (by first | (dsimp only [sput, sset]; done) | rfl) ?_) | refine h9 _ _ (arunD_slots' (by first | (dsimp only [sput, sset]; done) | rfl) (by first | (dsimp only [List.tail]; done) | rfl) ?_)); clear h9 K9)
    | (refine arun_end ?_)
    | (refine arunD_end ?_)
    | (refine awp_seq fun K hK => ?_)
    | (refine awp_region ?_)
    | (refine hK _ _ ?_; clear hK K)
    | ((first | refine awp_region_draw' (m := 0) (by decide +kernel) [] (by kernel_rfl) (by decide +kernel) ?_); dsimp only [List.replicate, List.append_nil, List.cons_append, List.nil_append, List.length_cons, List.length_nil])
    | (refine awp_cond rfl (fun hcnd => ?_) (fun hcnd => ?_) <;> (try simp at hcnd) <;> (try contradiction) <;> (try (exfalso; omega)))
    | (refine awp_skip ?_)
    | (refine awp_ret ?_; refine ret_go ?_)
    | (refine fall_go ?_)
    | (simp only [athen_normal, athen_exit, athen_ret, ablock_self, ablock_ne, ablock_normal, ablock_ret, Nat.reduceBEq])
    | (clear hK K; refine hK _ _ ?_; clear hK K)
    | (clear hK K; clear hK K; refine hK _ _ ?_; clear hK K)
    | (clear hK K; clear hK K; clear hK K; refine hK _ _ ?_; clear hK K)
    | (clear hK K; clear hK K; clear hK K; clear hK K; refine hK _ _ ?_; clear hK K)
    | (clear hK K; clear hK K; clear hK K; clear hK K; clear hK K; refine hK _ _ ?_; clear hK K))
  · simp [keyV]
    exact .pure (by simp)
  · simp
end Go.Proofs.Ythcdofbmmibgjaa
namespace Go.Proofs.Ythcdofbmmibgjaa
open Go.VS
set_option linter.all false
attribute [local irreducible] arun arunD AWp aend shaS shaT

theorem sigV_ok (id seed : List UInt8) (leaf : Nat) (d : List UInt8) (hi : id.length = 16) (hs : seed.length = 32) (hl : leaf < 256) (hd : d.length = 16) : sigV id seed leaf d = .tup [.str (vF id seed leaf d 35), .int .i64 0] := by
  rw [sigV, if_pos, if_pos hd]
  unfold seedE leafE; rw [if_neg (by omega), if_neg (by omega), if_neg (by omega)]

/-- Where nothing is signed. -/
theorem tsign_err (seed : List UInt8) (h : Nat) (g : Bool) (leaf : Int) (m : List UInt8) (hs : seed.length = 32) (hh : h ≤ 8) (hf : leaf < 0 ∨ ((2 ^ h : Nat) : Int) ≤ leaf) :
    PCall Try.prog 29 [.rptr (trR seed h g), .int .i64 leaf, .str m] (.tup [.str [], .int .i64 1]) := by
  refine pcall_body Try.func29 rfl Try.call29 ?_ ?_
  rotate_left 1
  refine awp_slots (s' := ((.rptr (trR seed h g) : V) :: (.int .i64 leaf : V) :: (.str m : V) :: V.junk :: V.junk :: V.junk :: V.junk :: V.junk :: V.junk :: V.junk :: V.junk :: V.junk :: V.junk :: V.junk :: V.junk :: V.junk :: V.junk :: V.junk :: V.junk :: V.junk :: V.junk :: V.junk :: V.junk :: V.junk :: V.junk :: V.junk :: V.junk :: V.junk :: V.junk :: V.junk :: V.junk :: V.junk :: V.junk :: V.junk :: V.junk :: V.junk :: V.junk :: V.junk :: V.junk :: V.junk :: V.junk :: V.junk :: V.junk :: V.junk :: V.junk :: V.junk :: V.junk :: V.junk :: V.junk :: V.junk :: V.junk :: V.junk :: V.junk :: V.junk :: V.junk :: V.junk :: V.junk :: V.junk :: V.junk :: V.junk :: V.junk :: V.junk :: V.junk :: V.junk :: V.junk :: V.junk :: V.junk :: V.junk :: V.junk :: V.junk :: V.junk :: V.junk :: V.junk :: V.junk :: V.junk :: [])) rfl ?_
  have hlv := leaves_call seed h g (seed_ne hs) hh
  generalize 2 ^ h = p at *
  by_cases h1 : leaf < 0
  · repeat' (first
    | ((first | refine arun_go0 rfl fun K9 h9 => ?_ | refine arunD_goF rfl rfl fun K9 h9 => ?_ | refine arunD_goT rfl rfl fun K9 h9 => ?_ | (refine arun_go ?_ ?_; (focus (simp [h1]; done)); intro K9 h9) | ((first | refine arunD_gF rfl ?_ ?_ | refine arunD_gT rfl ?_ ?_); (focus (simp [h1]; done)); intro K9 h9)); simp (disch := (first | (simp; done) | omega | (simp; omega))) [h1]; (try simp (disch := (first | omega | (simp; omega))) only [wrap_i64, wrap_u8, wrap_u32, wrap_u64, Int.tmod_eq_emod_of_nonneg, Int.tdiv_eq_ediv_of_nonneg]); (first | refine acall_pure (valid_tr seed h g hs) (by simp) ?_ | refine acall_pure (hlv) (by simp) ?_ | skip); (repeat (refine And.intro (by first | omega | (simp; first | done | omega) | assumption | (intro e9; have e8 := congrArg List.length e9; first | (simp at e8; done) | ((try simp only [List.length_map, List.length_append] at e8); rw [List.length_nil] at e8; omega))) ?_)); (first | refine h9 _ _ (arun_slots (by first | (dsimp only [sput, sset]; done) | rfl) ?_) | refine h9 _ _ (arunD_slots' (by first | (dsimp only [sput, sset]; done) | rfl) (by first | (dsimp only [List.tail]; done) | rfl) ?_)); clear h9 K9)
    | (refine arun_end ?_)
    | (refine arunD_end ?_)
    | (refine awp_seq fun K hK => ?_)
    | (refine awp_region ?_)
    | (refine hK _ _ ?_; clear hK K)
    | ((first | refine awp_region_draw' (m := 0) (by decide +kernel) [] (by kernel_rfl) (by decide +kernel) ?_); dsimp only [List.replicate, List.append_nil, List.cons_append, List.nil_append, List.length_cons, List.length_nil])
    | (refine awp_block ?_)
    | (refine awp_cond rfl (fun hcnd => ?_) (fun hcnd => ?_) <;> (try simp at hcnd) <;> (try contradiction) <;> (try (exfalso; omega)))
    | (refine awp_skip ?_)
    | (refine awp_exit ?_; simp only [athen_normal, athen_exit, athen_ret, ablock_self, ablock_ne, ablock_normal, ablock_ret, Nat.reduceBEq])
    | (refine awp_ret ?_; refine ret_go ?_)
    | (refine arun_no ?_ ?_; (focus (simp [h1]; done)); refine arun_slots (by first | (dsimp only [sput, sset]; done) | rfl) ?_)
    | ((first | refine arunD_nF rfl ?_ ?_ | refine arunD_nT rfl ?_ ?_); (focus (simp [h1]; done)); refine arunD_slots' (by first | (dsimp only [sput, sset]; done) | rfl) (by first | (dsimp only [List.tail]; done) | rfl) ?_)
    | (refine fall_go ?_)
    | (simp only [athen_normal, athen_exit, athen_ret, ablock_self, ablock_ne, ablock_normal, ablock_ret, Nat.reduceBEq])
    | (clear hK K; refine hK _ _ ?_; clear hK K)
    | (clear hK K; clear hK K; refine hK _ _ ?_; clear hK K)
    | (clear hK K; clear hK K; clear hK K; refine hK _ _ ?_; clear hK K)
    | (clear hK K; clear hK K; clear hK K; clear hK K; refine hK _ _ ?_; clear hK K)
    | (clear hK K; clear hK K; clear hK K; clear hK K; clear hK K; refine hK _ _ ?_; clear hK K))
    simp
    exact .pure (by simp)
  · have h2 : ¬ leaf < p := by omega
    repeat' (first
    | ((first | refine arun_go0 rfl fun K9 h9 => ?_ | refine arunD_goF rfl rfl fun K9 h9 => ?_ | refine arunD_goT rfl rfl fun K9 h9 => ?_ | (refine arun_go ?_ ?_; (focus (simp [h1, h2]; done)); intro K9 h9) | ((first | refine arunD_gF rfl ?_ ?_ | refine arunD_gT rfl ?_ ?_); (focus (simp [h1, h2]; done)); intro K9 h9)); simp (disch := (first | (simp; done) | omega | (simp; omega))) [h1, h2]; (try simp (disch := (first | omega | (simp; omega))) only [wrap_i64, wrap_u8, wrap_u32, wrap_u64, Int.tmod_eq_emod_of_nonneg, Int.tdiv_eq_ediv_of_nonneg]); (first | refine acall_pure (valid_tr seed h g hs) (by simp) ?_ | refine acall_pure (hlv) (by simp) ?_ | skip); (repeat (refine And.intro (by first | omega | (simp; first | done | omega) | assumption | (intro e9; have e8 := congrArg List.length e9; first | (simp at e8; done) | ((try simp only [List.length_map, List.length_append] at e8); rw [List.length_nil] at e8; omega))) ?_)); (first | refine h9 _ _ (arun_slots (by first | (dsimp only [sput, sset]; done) | rfl) ?_) | refine h9 _ _ (arunD_slots' (by first | (dsimp only [sput, sset]; done) | rfl) (by first | (dsimp only [List.tail]; done) | rfl) ?_)); clear h9 K9)
    | (refine arun_end ?_)
    | (refine arunD_end ?_)
    | (refine awp_seq fun K hK => ?_)
    | (refine awp_region ?_)
    | (refine hK _ _ ?_; clear hK K)
    | ((first | refine awp_region_draw' (m := 0) (by decide +kernel) [] (by kernel_rfl) (by decide +kernel) ?_); dsimp only [List.replicate, List.append_nil, List.cons_append, List.nil_append, List.length_cons, List.length_nil])
    | (refine awp_block ?_)
    | (refine awp_cond rfl (fun hcnd => ?_) (fun hcnd => ?_) <;> (try simp at hcnd) <;> (try contradiction) <;> (try (exfalso; omega)))
    | (refine awp_skip ?_)
    | (refine awp_exit ?_; simp only [athen_normal, athen_exit, athen_ret, ablock_self, ablock_ne, ablock_normal, ablock_ret, Nat.reduceBEq])
    | (refine awp_ret ?_; refine ret_go ?_)
    | (refine arun_no ?_ ?_; (focus (simp [h1, h2]; done)); refine arun_slots (by first | (dsimp only [sput, sset]; done) | rfl) ?_)
    | ((first | refine arunD_nF rfl ?_ ?_ | refine arunD_nT rfl ?_ ?_); (focus (simp [h1, h2]; done)); refine arunD_slots' (by first | (dsimp only [sput, sset]; done) | rfl) (by first | (dsimp only [List.tail]; done) | rfl) ?_)
    | (refine fall_go ?_)
    | (simp only [athen_normal, athen_exit, athen_ret, ablock_self, ablock_ne, ablock_normal, ablock_ret, Nat.reduceBEq])
    | (clear hK K; refine hK _ _ ?_; clear hK K)
    | (clear hK K; clear hK K; refine hK _ _ ?_; clear hK K)
    | (clear hK K; clear hK K; clear hK K; refine hK _ _ ?_; clear hK K)
    | (clear hK K; clear hK K; clear hK K; clear hK K; refine hK _ _ ?_; clear hK K)
    | (clear hK K; clear hK K; clear hK K; clear hK K; clear hK K; refine hK _ _ ?_; clear hK K))
    simp
    exact .pure (by simp)
  · simp
theorem tsign_zero (leaf : Int) (m : List UInt8) : PCall Try.prog 29 [.rptr zR, .int .i64 leaf, .str m] (.tup [.str [], .int .i64 18]) := by
  refine pcall_body Try.func29 rfl Try.call29 ?_ ?_
  rotate_left 1
  refine awp_slots (s' := ((.rptr zR : V) :: (.int .i64 leaf : V) :: (.str m : V) :: V.junk :: V.junk :: V.junk :: V.junk :: V.junk :: V.junk :: V.junk :: V.junk :: V.junk :: V.junk :: V.junk :: V.junk :: V.junk :: V.junk :: V.junk :: V.junk :: V.junk :: V.junk :: V.junk :: V.junk :: V.junk :: V.junk :: V.junk :: V.junk :: V.junk :: V.junk :: V.junk :: V.junk :: V.junk :: V.junk :: V.junk :: V.junk :: V.junk :: V.junk :: V.junk :: V.junk :: V.junk :: V.junk :: V.junk :: V.junk :: V.junk :: V.junk :: V.junk :: V.junk :: V.junk :: V.junk :: V.junk :: V.junk :: V.junk :: V.junk :: V.junk :: V.junk :: V.junk :: V.junk :: V.junk :: V.junk :: V.junk :: V.junk :: V.junk :: V.junk :: V.junk :: V.junk :: V.junk :: V.junk :: V.junk :: V.junk :: V.junk :: V.junk :: V.junk :: V.junk :: V.junk :: V.junk :: [])) rfl ?_
  repeat' (first
    | ((first | refine arun_go0 rfl fun K9 h9 => ?_ | refine arunD_goF rfl rfl fun K9 h9 => ?_ | refine arunD_goT rfl rfl fun K9 h9 => ?_ | (refine arun_go ?_ ?_; (focus (simp ; done)); intro K9 h9) | ((first | refine arunD_gF rfl ?_ ?_ | refine arunD_gT rfl ?_ ?_); (focus (simp ; done)); intro K9 h9)); simp (disch := (first | (simp; done) | omega | (simp; omega))) ; (try simp (disch := (first | omega | (simp; omega))) only [wrap_i64, wrap_u8, wrap_u32, wrap_u64, Int.tmod_eq_emod_of_nonneg, Int.tdiv_eq_ediv_of_nonneg]); (first | refine acall_pure (valid_zero .nils (.str []) (.int .i64 0)) (by simp) ?_ | skip); (repeat (refine And.intro (by first | omega | (simp; first | done | omega) | assumption | (intro e9; have e8 := congrArg List.length e9; first | (simp at e8; done) | ((try simp only [List.length_map, List.length_append] at e8); rw [List.length_nil] at e8; omega))) ?_)); (first | refine h9 _ _ (arun_slots (by first | (dsimp only [sput, sset]; done) | rfl) ?_) | refine h9 _ _ (arunD_slots' (by first | (dsimp only [sput, sset]; done) | rfl) (by first | (dsimp only [List.tail]; done) | rfl) ?_)); clear h9 K9)
    | (refine arun_end ?_)
    | (refine arunD_end ?_)
    | (refine awp_seq fun K hK => ?_)
    | (refine awp_region ?_)
    | (refine hK _ _ ?_; clear hK K)
    | ((first | refine awp_region_draw' (m := 0) (by decide +kernel) [] (by kernel_rfl) (by decide +kernel) ?_); dsimp only [List.replicate, List.append_nil, List.cons_append, List.nil_append, List.length_cons, List.length_nil])
    | (refine awp_block ?_)
    | (refine awp_cond rfl (fun hcnd => ?_) (fun hcnd => ?_) <;> (try simp at hcnd) <;> (try contradiction) <;> (try (exfalso; omega)))
    | (refine awp_skip ?_)
    | (refine awp_exit ?_; simp only [athen_normal, athen_exit, athen_ret, ablock_self, ablock_ne, ablock_normal, ablock_ret, Nat.reduceBEq])
    | (refine awp_ret ?_; refine ret_go ?_)
    | (refine arun_no ?_ ?_; (focus (simp ; done)); refine arun_slots (by first | (dsimp only [sput, sset]; done) | rfl) ?_)
    | ((first | refine arunD_nF rfl ?_ ?_ | refine arunD_nT rfl ?_ ?_); (focus (simp ; done)); refine arunD_slots' (by first | (dsimp only [sput, sset]; done) | rfl) (by first | (dsimp only [List.tail]; done) | rfl) ?_)
    | (refine fall_go ?_)
    | (simp only [athen_normal, athen_exit, athen_ret, ablock_self, ablock_ne, ablock_normal, ablock_ret, Nat.reduceBEq])
    | (clear hK K; refine hK _ _ ?_; clear hK K)
    | (clear hK K; clear hK K; refine hK _ _ ?_; clear hK K)
    | (clear hK K; clear hK K; clear hK K; refine hK _ _ ?_; clear hK K)
    | (clear hK K; clear hK K; clear hK K; clear hK K; refine hK _ _ ?_; clear hK K)
    | (clear hK K; clear hK K; clear hK K; clear hK K; clear hK K; refine hK _ _ ?_; clear hK K))
  · simp
    exact .pure (by simp)
  · simp
theorem tsign_nil (leaf : Int) (m : List UInt8) : PCall Try.prog 29 [.nilp, .int .i64 leaf, .str m] (.tup [.str [], .int .i64 18]) := by
  refine pcall_body Try.func29 rfl Try.call29 ?_ ?_
  rotate_left 1
  refine awp_slots (s' := ((.nilp : V) :: (.int .i64 leaf : V) :: (.str m : V) :: V.junk :: V.junk :: V.junk :: V.junk :: V.junk :: V.junk :: V.junk :: V.junk :: V.junk :: V.junk :: V.junk :: V.junk :: V.junk :: V.junk :: V.junk :: V.junk :: V.junk :: V.junk :: V.junk :: V.junk :: V.junk :: V.junk :: V.junk :: V.junk :: V.junk :: V.junk :: V.junk :: V.junk :: V.junk :: V.junk :: V.junk :: V.junk :: V.junk :: V.junk :: V.junk :: V.junk :: V.junk :: V.junk :: V.junk :: V.junk :: V.junk :: V.junk :: V.junk :: V.junk :: V.junk :: V.junk :: V.junk :: V.junk :: V.junk :: V.junk :: V.junk :: V.junk :: V.junk :: V.junk :: V.junk :: V.junk :: V.junk :: V.junk :: V.junk :: V.junk :: V.junk :: V.junk :: V.junk :: V.junk :: V.junk :: V.junk :: V.junk :: V.junk :: V.junk :: V.junk :: V.junk :: V.junk :: [])) rfl ?_
  repeat' (first
    | ((first | refine arun_go0 rfl fun K9 h9 => ?_ | refine arunD_goF rfl rfl fun K9 h9 => ?_ | refine arunD_goT rfl rfl fun K9 h9 => ?_ | (refine arun_go ?_ ?_; (focus (simp ; done)); intro K9 h9) | ((first | refine arunD_gF rfl ?_ ?_ | refine arunD_gT rfl ?_ ?_); (focus (simp ; done)); intro K9 h9)); simp (disch := (first | (simp; done) | omega | (simp; omega))) ; (try simp (disch := (first | omega | (simp; omega))) only [wrap_i64, wrap_u8, wrap_u32, wrap_u64, Int.tmod_eq_emod_of_nonneg, Int.tdiv_eq_ediv_of_nonneg]); (first | refine acall_pure (valid_nil) (by simp) ?_ | skip); (repeat (refine And.intro (by first | omega | (simp; first | done | omega) | assumption | (intro e9; have e8 := congrArg List.length e9; first | (simp at e8; done) | ((try simp only [List.length_map, List.length_append] at e8); rw [List.length_nil] at e8; omega))) ?_)); (first | refine h9 _ _ (arun_slots (by first | (dsimp only [sput, sset]; done) | rfl) ?_) | refine h9 _ _ (arunD_slots' (by first | (dsimp only [sput, sset]; done) | rfl) (by first | (dsimp only [List.tail]; done) | rfl) ?_)); clear h9 K9)
    | (refine arun_end ?_)
    | (refine arunD_end ?_)
    | (refine awp_seq fun K hK => ?_)
    | (refine awp_region ?_)
    | (refine hK _ _ ?_; clear hK K)
    | ((first | refine awp_region_draw' (m := 0) (by decide +kernel) [] (by kernel_rfl) (by decide +kernel) ?_); dsimp only [List.replicate, List.append_nil, List.cons_append, List.nil_append, List.length_cons, List.length_nil])
    | (refine awp_block ?_)
    | (refine awp_cond rfl (fun hcnd => ?_) (fun hcnd => ?_) <;> (try simp at hcnd) <;> (try contradiction) <;> (try (exfalso; omega)))
    | (refine awp_skip ?_)
    | (refine awp_exit ?_; simp only [athen_normal, athen_exit, athen_ret, ablock_self, ablock_ne, ablock_normal, ablock_ret, Nat.reduceBEq])
    | (refine awp_ret ?_; refine ret_go ?_)
    | (refine arun_no ?_ ?_; (focus (simp ; done)); refine arun_slots (by first | (dsimp only [sput, sset]; done) | rfl) ?_)
    | ((first | refine arunD_nF rfl ?_ ?_ | refine arunD_nT rfl ?_ ?_); (focus (simp ; done)); refine arunD_slots' (by first | (dsimp only [sput, sset]; done) | rfl) (by first | (dsimp only [List.tail]; done) | rfl) ?_)
    | (refine fall_go ?_)
    | (simp only [athen_normal, athen_exit, athen_ret, ablock_self, ablock_ne, ablock_normal, ablock_ret, Nat.reduceBEq])
    | (clear hK K; refine hK _ _ ?_; clear hK K)
    | (clear hK K; clear hK K; refine hK _ _ ?_; clear hK K)
    | (clear hK K; clear hK K; clear hK K; refine hK _ _ ?_; clear hK K)
    | (clear hK K; clear hK K; clear hK K; clear hK K; refine hK _ _ ?_; clear hK K)
    | (clear hK K; clear hK K; clear hK K; clear hK K; clear hK K; refine hK _ _ ?_; clear hK K))
  · simp
    exact .pure (by simp)
  · simp

set_option maxRecDepth 100000 in
set_option maxHeartbeats 4000000 in
theorem tsign_call (seed : List UInt8) (h : Nat) (g : Bool) (leaf : Nat) (m : List UInt8) (hs : seed.length = 32) (hh : h ≤ 8) (hf : leaf < 2 ^ h) (hm : m.length ≤ 1000) :
    MCall Try.prog 29 [.ref 0 0, .int .i64 leaf, .str m] (trR seed h g) (trR seed h true) (.tup [.str (sgnS seed h leaf m), .int .i64 0]) := by
  refine mcall_body Try.func29 rfl Try.call29 ?_ ?_ ?_
  rotate_left 2
  refine awp_slots (s' := ((.ref 0 0 : V) :: (.int .i64 leaf : V) :: (.str m : V) :: V.junk :: V.junk :: V.junk :: V.junk :: V.junk :: V.junk :: V.junk :: V.junk :: V.junk :: V.junk :: V.junk :: V.junk :: V.junk :: V.junk :: V.junk :: V.junk :: V.junk :: V.junk :: V.junk :: V.junk :: V.junk :: V.junk :: V.junk :: V.junk :: V.junk :: V.junk :: V.junk :: V.junk :: V.junk :: V.junk :: V.junk :: V.junk :: V.junk :: V.junk :: V.junk :: V.junk :: V.junk :: V.junk :: V.junk :: V.junk :: V.junk :: V.junk :: V.junk :: V.junk :: V.junk :: V.junk :: V.junk :: V.junk :: V.junk :: V.junk :: V.junk :: V.junk :: V.junk :: V.junk :: V.junk :: V.junk :: V.junk :: V.junk :: V.junk :: V.junk :: V.junk :: V.junk :: V.junk :: V.junk :: V.junk :: V.junk :: V.junk :: V.junk :: V.junk :: V.junk :: V.junk :: V.junk :: [])) rfl ?_
  have h256 := pow_le_256 hh
  have hv := sigV_ok (idS seed) seed leaf (digM (idS seed) (rootS (idS seed) seed h) leaf m) (idS_length seed) hs (by omega) (digM_length _ _ _ _)
  have hsg := sign_call (idS seed) seed leaf (digM (idS seed) (rootS (idS seed) seed h) leaf m) (by simp) (by omega) (by simp)
  rw [hv] at hsg
  have hlv := leaves_call seed h g (seed_ne hs) hh
  have hvl := vF_length (idS seed) seed leaf (digM (idS seed) (rootS (idS seed) seed h) leaf m) 35
  have hS : sgnS seed h leaf m = wbytes leaf ++ vF (idS seed) seed leaf (digM (idS seed) (rootS (idS seed) seed h) leaf m) 35 ++ auth (idS seed) seed h leaf h := rfl
  obtain ⟨ov, hov⟩ : ∃ ov, vF (idS seed) seed leaf (digM (idS seed) (rootS (idS seed) seed h) leaf m) 35 = ov := ⟨_, rfl⟩
  rw [hov] at hsg hvl hS
  rw [hS]
  have hxx : ∀ k, k < h → xr (leaf / 2 ^ k) < 2 ^ (h - k) := fun k hk => xr_lt hk hf
  have hq : ∀ k, leaf / 2 ^ k < 256 := fun k => Nat.lt_of_le_of_lt (Nat.div_le_self _ _) (by omega)
  obtain ⟨p, hp⟩ : ∃ p, 2 ^ h = p := ⟨_, rfl⟩
  rw [hp] at hlv h256 hf
  repeat' (first
    | ((first | refine arun_go0 rfl fun K9 h9 => ?_ | refine arunD_goF rfl rfl fun K9 h9 => ?_ | refine arunD_goT rfl rfl fun K9 h9 => ?_ | (refine arun_go ?_ ?_; (focus (simp [opKind]; done)); intro K9 h9) | ((first | refine arunD_gF rfl ?_ ?_ | refine arunD_gT rfl ?_ ?_); (focus (simp [opKind]; done)); intro K9 h9)); simp (disch := (first | (simp; done) | omega | (simp; omega))) [opKind]; (try simp (disch := (first | omega | (simp; omega))) only [wrap_i64, wrap_u8, wrap_u32, wrap_u64, Int.tmod_eq_emod_of_nonneg, Int.tdiv_eq_ediv_of_nonneg]); (first | refine acall_view (valid_tr seed h g hs) ⟨view_ref rfl (by simp) (trR_pures _ _ _), trivial⟩ .bool ?_ | refine acall_view hlv ⟨view_ref rfl (by simp) (trR_pures _ _ _), trivial⟩ .int ?_ | refine aeffS_load rfl (by simp) (by simp; rfl) ?_ | refine acallF_mut 0 (key_call seed h g hs hh) rfl (trR_pures _ _ _) (trR_pures _ _ _) (by simp) (by simp) ⟨by simp, ?_⟩ | refine acall_pure (mdigest_call h (idS seed) (rootS (idS seed) seed h) leaf m (by simp) (by simp) hm) (by simp) ?_ | refine acall_pure (hsg) (by simp) ?_ | refine acall_pure (mb4_call _) (by simp) ?_ | skip); (repeat (refine And.intro (by first | omega | (simp; first | done | omega) | assumption | (intro e9; have e8 := congrArg List.length e9; first | (simp at e8; done) | ((try simp only [List.length_map, List.length_append] at e8); rw [List.length_nil] at e8; omega))) ?_)); (first | refine h9 _ _ (arun_slots (by first | (dsimp only [sput, sset]; done) | rfl) ?_) | refine h9 _ _ (arunD_slots' (by first | (dsimp only [sput, sset]; done) | rfl) (by first | (dsimp only [List.tail]; done) | rfl) ?_)); clear h9 K9)
    | (refine arun_end ?_)
    | (refine arunD_end ?_)
    | (refine awp_seq fun K hK => ?_)
    | (refine awp_region ?_)
    | (refine hK _ _ ?_; clear hK K)
    | ((first | refine awp_region_drawF (m := 0) [(0, 2, .str (idS seed)), (0, 1, .str seed)] (by simp) (by decide +kernel) [0, 0, 0, 3, 0, 0, 0, 3, 0, 0, 2, 0, 0, 0, 0] (by kernel_rfl) (by decide +kernel) ?_ | refine awp_region_draw' (m := 0) (by decide +kernel) [0, 0, 0, 3, 0, 0, 0, 3, 0, 0, 2, 0, 0, 0, 0] (by kernel_rfl) (by decide +kernel) ?_ | refine awp_region_draw' (m := 0) (by decide +kernel) [] (by kernel_rfl) (by decide +kernel) ?_); dsimp only [List.replicate, List.append_nil, List.cons_append, List.nil_append, List.length_cons, List.length_nil])
    | (refine awp_block ?_)
    | (refine awp_cond rfl (fun hcnd => ?_) (fun hcnd => ?_) <;> (try simp at hcnd) <;> (try contradiction) <;> (try (exfalso; omega)))
    | (refine awp_skip ?_)
    | (refine awp_exit ?_; simp only [athen_normal, athen_exit, athen_ret, ablock_self, ablock_ne, ablock_normal, ablock_ret, Nat.reduceBEq])
    | (refine awp_ret ?_; refine ret_go ?_)
    | (refine arun_no ?_ ?_; (focus (simp [opKind]; done)); refine arun_slots (by first | (dsimp only [sput, sset]; done) | rfl) ?_)
    | ((first | refine arunD_nF rfl ?_ ?_ | refine arunD_nT rfl ?_ ?_); (focus (simp [opKind]; done)); refine arunD_slots' (by first | (dsimp only [sput, sset]; done) | rfl) (by first | (dsimp only [List.tail]; done) | rfl) ?_)
    | (refine fall_go ?_)
    | (simp only [athen_normal, athen_exit, athen_ret, ablock_self, ablock_ne, ablock_normal, ablock_ret, Nat.reduceBEq])
    | (clear hK K; refine hK _ _ ?_; clear hK K)
    | (clear hK K; clear hK K; refine hK _ _ ?_; clear hK K)
    | (clear hK K; clear hK K; clear hK K; refine hK _ _ ?_; clear hK K)
    | (clear hK K; clear hK K; clear hK K; clear hK K; refine hK _ _ ?_; clear hK K)
    | (clear hK K; clear hK K; clear hK K; clear hK K; clear hK K; refine hK _ _ ?_; clear hK K))
  · refine awp_countU (fun k => (none :: some V.junk :: some V.junk :: none :: none :: none :: some V.junk :: some V.junk :: some V.junk :: some V.junk :: some (V.str (wbytes leaf ++ ov ++ auth (idS seed) seed h leaf k)) :: some (V.int .i64 k) :: some (V.int .i64 ((leaf / 2 ^ k : Nat) : Int)) :: some V.junk :: some V.junk :: some V.junk :: some V.junk :: some V.junk :: some V.junk :: some V.junk :: some V.junk :: some V.junk :: some V.junk :: some V.junk :: some V.junk :: some V.junk :: some V.junk :: some V.junk :: some V.junk :: some V.junk :: some V.junk :: some V.junk :: some V.junk :: some V.junk :: some V.junk :: some V.junk :: some V.junk :: some V.junk :: some V.junk :: some V.junk :: some V.junk :: some V.junk :: some V.junk :: some V.junk :: some V.junk :: some V.junk :: some V.junk :: some V.junk :: some V.junk :: some V.junk :: some V.junk :: some V.junk :: some V.junk :: some V.junk :: some V.junk :: some V.junk :: some V.junk :: some V.junk :: some V.junk :: some V.junk :: some V.junk :: some V.junk :: some V.junk :: some V.junk :: some V.junk :: some V.junk :: some V.junk :: some V.junk :: some V.junk :: some V.junk :: some V.junk :: some V.junk :: some V.junk :: some V.junk :: some V.junk :: [])) (fun k => [.live (trR seed h true)]) h ?_ fun k hk KL hL => ?_
    · dsimp only [ups_some, ups_none, ups_nil, ups_nil']
      exact Le.mk [some 0] (by simp [auth]) (rowsRen_of (by simp) (by simp [rowsOver])) (by simp)
    dsimp only [ups_some, ups_none, ups_nil, ups_nil']
    have hal := auth_length (idS seed) seed h leaf (by omega) k hk
    rcases Nat.lt_or_ge k h with hk | hk
    · have hlg : (lvVs seed h (h + 1))[k]'(by simp; omega) = strsV (lvl (idS seed) seed h k) := by
        have := lvVs_get seed h (h + 1) k (by omega)
        rw [List.getElem?_eq_getElem (by simp; omega)] at this
        exact Option.some.inj this
      have hll := lvl_length (idS seed) seed h k (by omega)
      have h16 := lvl_16 (idS seed) seed h k
      have hx1 := hxx k hk
      have hb := xr_bits (leaf / 2 ^ k) (hq k)
      have hqk := hq k
      have ha := auth_succ (idS seed) seed h leaf k
      have hdd : leaf / 2 ^ (k + 1) = leaf / 2 ^ k / 2 := by rw [Nat.pow_succ, Nat.div_div_eq_div_mul]
      unfold node at ha
      rw [hdd, ha] at hL
      generalize lvl (idS seed) seed h k = L at *
      generalize leaf / 2 ^ k = q at *
      have b1 : xr q < L.length := by omega
      rw [getD_get b1] at hL
      have q1 := h16 _ (List.getElem_mem b1)
      generalize xr q = y at *
      unfold strsV at hlg
      repeat' (first
    | ((first | refine arun_go0 rfl fun K9 h9 => ?_ | refine arunD_goF rfl rfl fun K9 h9 => ?_ | refine arunD_goT rfl rfl fun K9 h9 => ?_ | (refine arun_go ?_ ?_; (focus (simp [hlg, hb]; done)); intro K9 h9) | ((first | refine arunD_gF rfl ?_ ?_ | refine arunD_gT rfl ?_ ?_); (focus (simp [hlg, hb]; done)); intro K9 h9)); simp (disch := (first | (simp; done) | omega | (simp; omega))) [hlg, hb]; (try simp (disch := (first | omega | (simp; omega))) only [wrap_i64, wrap_u8, wrap_u32, wrap_u64, Int.tmod_eq_emod_of_nonneg, Int.tdiv_eq_ediv_of_nonneg]); (repeat (refine And.intro (by first | omega | (simp; first | done | omega) | assumption | (intro e9; have e8 := congrArg List.length e9; first | (simp at e8; done) | ((try simp only [List.length_map, List.length_append] at e8); rw [List.length_nil] at e8; omega))) ?_)); (first | refine h9 _ _ (arun_slots (by first | (dsimp only [sput, sset]; done) | rfl) ?_) | refine h9 _ _ (arunD_slots' (by first | (dsimp only [sput, sset]; done) | rfl) (by first | (dsimp only [List.tail]; done) | rfl) ?_)); clear h9 K9)
    | (refine arun_end ?_)
    | (refine arunD_end ?_)
    | (refine awp_seq fun K hK => ?_)
    | (refine awp_region ?_)
    | (refine hK _ _ ?_; clear hK K)
    | ((first | refine awp_region_draw' (m := 0) (by decide +kernel) [] (by kernel_rfl) (by decide +kernel) ?_); dsimp only [List.replicate, List.append_nil, List.cons_append, List.nil_append, List.length_cons, List.length_nil])
    | (refine awp_block ?_)
    | (refine awp_cond rfl (fun hcnd => ?_) (fun hcnd => ?_) <;> (try simp at hcnd) <;> (try contradiction) <;> (try (exfalso; omega)))
    | (refine awp_skip ?_)
    | (refine awp_exit ?_; simp only [athen_normal, athen_exit, athen_ret, ablock_self, ablock_ne, ablock_normal, ablock_ret, Nat.reduceBEq])
    | (refine awp_ret ?_; refine ret_go ?_)
    | (refine arun_no ?_ ?_; (focus (simp [hlg, hb]; done)); refine arun_slots (by first | (dsimp only [sput, sset]; done) | rfl) ?_)
    | ((first | refine arunD_nF rfl ?_ ?_ | refine arunD_nT rfl ?_ ?_); (focus (simp [hlg, hb]; done)); refine arunD_slots' (by first | (dsimp only [sput, sset]; done) | rfl) (by first | (dsimp only [List.tail]; done) | rfl) ?_)
    | (refine fall_go ?_)
    | (simp only [athen_normal, athen_exit, athen_ret, ablock_self, ablock_ne, ablock_normal, ablock_ret, Nat.reduceBEq])
    | (clear hK K; refine hK _ _ ?_; clear hK K)
    | (clear hK K; clear hK K; refine hK _ _ ?_; clear hK K)
    | (clear hK K; clear hK K; clear hK K; refine hK _ _ ?_; clear hK K)
    | (clear hK K; clear hK K; clear hK K; clear hK K; refine hK _ _ ?_; clear hK K)
    | (clear hK K; clear hK K; clear hK K; clear hK K; clear hK K; refine hK _ _ ?_; clear hK K))
      refine hL _ _ hk ?_
      exact Le.mk [some 0] (by dsimp only [ups_some, ups_none, ups_nil, ups_nil']; simp) (rowsRen_of (by simp) (by simp [rowsOver])) (by simp)
    obtain rfl : k = h := by omega
    repeat' (first
    | ((first | refine arun_go0 rfl fun K9 h9 => ?_ | refine arunD_goF rfl rfl fun K9 h9 => ?_ | refine arunD_goT rfl rfl fun K9 h9 => ?_ | (refine arun_go ?_ ?_; (focus (simp ; done)); intro K9 h9) | ((first | refine arunD_gF rfl ?_ ?_ | refine arunD_gT rfl ?_ ?_); (focus (simp ; done)); intro K9 h9)); simp (disch := (first | (simp; done) | omega | (simp; omega))) ; (try simp (disch := (first | omega | (simp; omega))) only [wrap_i64, wrap_u8, wrap_u32, wrap_u64, Int.tmod_eq_emod_of_nonneg, Int.tdiv_eq_ediv_of_nonneg]); (repeat (refine And.intro (by first | omega | (simp; first | done | omega) | assumption | (intro e9; have e8 := congrArg List.length e9; first | (simp at e8; done) | ((try simp only [List.length_map, List.length_append] at e8); rw [List.length_nil] at e8; omega))) ?_)); (first | refine h9 _ _ (arun_slots (by first | (dsimp only [sput, sset]; done) | rfl) ?_) | refine h9 _ _ (arunD_slots' (by first | (dsimp only [sput, sset]; done) | rfl) (by first | (dsimp only [List.tail]; done) | rfl) ?_)); clear h9 K9)
    | (refine arun_end ?_)
    | (refine arunD_end ?_)
    | (refine awp_seq fun K hK => ?_)
    | (refine awp_region ?_)
    | (refine hK _ _ ?_; clear hK K)
    | ((first | refine awp_region_draw' (m := 0) (by decide +kernel) [] (by kernel_rfl) (by decide +kernel) ?_); dsimp only [List.replicate, List.append_nil, List.cons_append, List.nil_append, List.length_cons, List.length_nil])
    | (refine awp_block ?_)
    | (refine awp_cond rfl (fun hcnd => ?_) (fun hcnd => ?_) <;> (try simp at hcnd) <;> (try contradiction) <;> (try (exfalso; omega)))
    | (refine awp_skip ?_)
    | (refine awp_exit ?_; simp only [athen_normal, athen_exit, athen_ret, ablock_self, ablock_ne, ablock_normal, ablock_ret, Nat.reduceBEq])
    | (refine awp_ret ?_; refine ret_go ?_)
    | (refine arun_no ?_ ?_; (focus (simp ; done)); refine arun_slots (by first | (dsimp only [sput, sset]; done) | rfl) ?_)
    | ((first | refine arunD_nF rfl ?_ ?_ | refine arunD_nT rfl ?_ ?_); (focus (simp ; done)); refine arunD_slots' (by first | (dsimp only [sput, sset]; done) | rfl) (by first | (dsimp only [List.tail]; done) | rfl) ?_)
    | (refine fall_go ?_)
    | (simp only [athen_normal, athen_exit, athen_ret, ablock_self, ablock_ne, ablock_normal, ablock_ret, Nat.reduceBEq])
    | (clear hK K; refine hK _ _ ?_; clear hK K)
    | (clear hK K; clear hK K; refine hK _ _ ?_; clear hK K)
    | (clear hK K; clear hK K; clear hK K; refine hK _ _ ?_; clear hK K)
    | (clear hK K; clear hK K; clear hK K; clear hK K; refine hK _ _ ?_; clear hK K)
    | (clear hK K; clear hK K; clear hK K; clear hK K; clear hK K; refine hK _ _ ?_; clear hK K))
    simp
    exact mend_plain
  · simp
  · simp
end Go.Proofs.Ythcdofbmmibgjaa
