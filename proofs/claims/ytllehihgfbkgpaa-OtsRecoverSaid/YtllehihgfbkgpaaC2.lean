/-
  CONTRACTS: the example of chapter 11; OtsApart.
  Conditions: none.
-/
import Derived.Test.YtllehihgfbkgpaaC1
namespace Go.Proofs.Ytllehihgfbkgpaa
open Go.VS
set_option linter.all false
attribute [local irreducible] arun arunD AWp

theorem digR_zero : digR [0, 0, 0, 0, 0, 0, 0, 0, 0, 0, 0, 0, 0, 0, 0, 0] = .tup [.sl 35 ([0, 0, 0, 0, 0, 0, 0, 0, 0, 0, 0, 0, 0, 0, 0, 0, 0, 0, 0, 0, 0, 0, 0, 0, 0, 0, 0, 0, 0, 0, 0, 0, 1, 14, 0].map (V.int .i64)), .int .i64 0] := by
  simp [digR, digs, nibs, sumBy, ints]

set_option maxRecDepth 100000 in
theorem awake11_call : PCall Try.prog 15 [] (.bool true) := by
  refine pcall_body Try.func15 rfl Try.call15 (by simp) ?_
  refine awp_seq fun K hK => ?_
  refine awp_region ?_
  iterate 1 (first | (refine arun_no ?_ ?_; (focus (simp; done)); dsimp only [sput, sset]) | (refine arun_go (by simp; done) fun K9 h9 => ?_; simp; refine h9 _ _ ?_; clear h9 K9; dsimp only [sput, sset]))
  refine arun_end ?_
  refine hK _ _ ?_; clear hK K
  refine awp_seq fun K hK => ?_
  refine awp_region ?_
  iterate 2 (first | (refine arun_no ?_ ?_; (focus (simp; done)); dsimp only [sput, sset]) | (refine arun_go (by simp; done) fun K9 h9 => ?_; simp; refine h9 _ _ ?_; clear h9 K9; dsimp only [sput, sset]))
  refine arun_go (by simp; done) fun K9 h9 => ?_
  simp
  refine acall_pure (digits_call _ (by simp)) (by simp) ?_
  rw [digR_zero]
  refine h9 _ _ ?_; clear h9 K9
  dsimp only [sput, sset]
  iterate 5 (first | (refine arun_no ?_ ?_; (focus (simp; done)); dsimp only [sput, sset]) | (refine arun_go (by simp; done) fun K9 h9 => ?_; simp; refine h9 _ _ ?_; clear h9 K9; dsimp only [sput, sset]))
  refine arun_end ?_
  refine hK _ _ ?_; clear hK K
  refine awp_seq fun K hK => ?_
  refine awp_region ?_
  iterate 32 (first | (refine arun_no ?_ ?_; (focus (simp; done)); dsimp only [sput, sset]) | (refine arun_go (by simp; done) fun K9 h9 => ?_; simp; refine h9 _ _ ?_; clear h9 K9; dsimp only [sput, sset]))
  refine arun_end ?_
  refine hK _ _ ?_; clear hK K
  refine awp_ret ?_
  simp
  exact .pure .bool
/-! ### OtsApart -/

theorem aeq22 (m : Nat) {a b : List UInt8} (ha : a.length = 16) (hb : b.length = 16) : aeq Try.prog (m + 2) 22 (.agg (a.map byteV)) (.agg (b.map byteV)) = some (a == b) :=
  aeq_bytes (n := 16) (e := 5) (k := .u8) (by kernel_rfl) (by kernel_rfl) (by simp) (by simp) ha hb

theorem bytes_set_pure (a : List UInt8) (j : Nat) (c : UInt8) : ∀ x ∈ (a.map byteV).set j (byteV c), x.Pure := by
  intro x hx
  rw [← List.map_set] at hx
  obtain ⟨y, -, rfl⟩ := List.mem_map.1 hx
  simp

/-- Is one of the first digits less? -/
def lessBy (x y : List Int) (i : Nat) : Bool := (List.range i).any fun j => decide (x.getD j 0 < y.getD j 0)

theorem lessBy_succ (x y : List Int) (i : Nat) : lessBy x y (i + 1) = (lessBy x y i || decide (x.getD i 0 < y.getD i 0)) := by
  simp [lessBy, List.range_succ]

theorem digs_length (a : List UInt8) (h : a.length = 16) : (digs a).length = 35 := by simp [digs, h]

theorem sum_of_ge : ∀ (a b : List UInt8), a.length = b.length → (∀ j, (nibs b).getD j 0 ≤ (nibs a).getD j 0) → sumBy a ≤ sumBy b ∧ (sumBy a = sumBy b → a = b)
  | [], [], _, _ => ⟨Int.le_refl _, fun _ => rfl⟩
  | [], _ :: _, h, _ => by simp at h
  | _ :: _, [], h, _ => by simp at h
  | c :: a, d :: b, h, hg => by
    have hn : ∀ (c : UInt8) (l : List UInt8), nibs (c :: l) = (c.toNat : Int) / 16 :: (c.toNat : Int) % 16 :: nibs l := fun c l => by simp [nibs]
    have hs : ∀ (c : UInt8) (l : List UInt8), sumBy (c :: l) = 30 - (c.toNat : Int) / 16 - (c.toNat : Int) % 16 + sumBy l := fun c l => by simp [sumBy]
    rw [hn, hn] at hg
    have h0 := hg 0
    have h1 := hg 1
    obtain ⟨i1, i2⟩ := sum_of_ge a b (by simpa using h) fun j => by simpa using hg (j + 2)
    simp at h0 h1
    rw [hs, hs]
    refine ⟨by omega, fun e => ?_⟩
    have e1 : sumBy a = sumBy b := by omega
    have e2 : c.toNat = d.toNat := by omega
    rw [i2 e1, UInt8.toNat_inj.1 e2]

theorem less_of_ne {a b : List UInt8} (ha : a.length = 16) (hb : b.length = 16) (h : a ≠ b) : lessBy (digs a) (digs b) 35 = true := by
  rw [← Bool.not_eq_false]
  intro hf
  have hge : ∀ j, j < 35 → (digs b).getD j 0 ≤ (digs a).getD j 0 := by
    intro j hj
    rcases Int.lt_or_le ((digs a).getD j 0) ((digs b).getD j 0) with h1 | h1
    · have : lessBy (digs a) (digs b) 35 = true := by
        rw [lessBy, List.any_eq_true]
        exact ⟨j, List.mem_range.2 hj, by simpa using h1⟩
      rw [this] at hf
      cases hf
    · exact h1
  have low : ∀ (l : List UInt8), l.length = 16 → ∀ j, j < 32 → (digs l).getD j 0 = (nibs l).getD j 0 := by
    intro l hl j hj
    simp only [digs, List.getD_eq_getElem?_getD]
    rw [List.getElem?_append_left (by simp [hl]; omega)]
  have top : ∀ (l : List UInt8), l.length = 16 → (digs l).getD 32 0 = sumBy l / 256 ∧ (digs l).getD 33 0 = sumBy l / 16 % 16 ∧ (digs l).getD 34 0 = sumBy l % 16 := by
    intro l hl
    simp [digs, List.getD_eq_getElem?_getD, List.getElem?_append, hl]
  obtain ⟨s1, s2⟩ := sum_of_ge a b (by omega) fun j => by
    rcases Nat.lt_or_ge j 32 with hj | hj
    · rw [← low a ha j hj, ← low b hb j hj]
      exact hge j (by omega)
    · simp only [List.getD_eq_getElem?_getD]
      rw [List.getElem?_eq_none (by simp [ha]; omega), List.getElem?_eq_none (by simp [hb]; omega)]
      exact Int.le_refl _
  have hne : sumBy a ≠ sumBy b := fun e => h (s2 e)
  obtain ⟨a1, a2, a3⟩ := top a ha
  obtain ⟨b1, b2, b3⟩ := top b hb
  have t1 := hge 32 (by omega)
  have t2 := hge 33 (by omega)
  have t3 := hge 34 (by omega)
  rw [a1, b1] at t1
  rw [a2, b2] at t2
  rw [a3, b3] at t3
  have := sumBy_bound a
  have := sumBy_bound b
  omega

set_option maxRecDepth 100000 in
set_option maxHeartbeats 4000000 in
theorem otsApart_call (a b : List UInt8) (at' c : UInt8) (near : Bool) (ha : a.length = 16) (hb : b.length = 16) :
    PCall Try.prog 4 [.agg (a.map byteV), .agg (b.map byteV), byteV at', byteV c, .bool near] (.bool true) := by
  refine pcall_body Try.func4 rfl Try.call4 (by simp) ?_
  refine awp_seq fun K hK => ?_
  refine awp_region ?_
  iterate 3 (first | (refine arun_no ?_ ?_; (focus (simp; done)); dsimp only [sput, sset]) | (refine arun_go (by simp; done) fun K9 h9 => ?_; simp; refine h9 _ _ ?_; clear h9 K9; dsimp only [sput, sset]))
  refine arun_end ?_
  refine hK _ _ ?_; clear hK K
  refine awp_seq' fun K hK hL => ?_
  have main : ∀ b' : List UInt8, b'.length = 16 → K ((V.junk :: V.junk :: V.junk :: V.junk :: V.junk :: (V.ref 0 0) :: (V.ref 1 0) :: V.junk :: V.junk :: V.junk :: (V.bool false) :: V.junk :: V.junk :: V.junk :: V.junk :: V.junk :: V.junk :: V.junk :: V.junk :: V.junk :: V.junk :: V.junk :: V.junk :: V.junk :: V.junk :: V.junk :: V.junk :: V.junk :: V.junk :: V.junk :: V.junk :: V.junk :: V.junk :: V.junk :: V.junk :: V.junk :: V.junk :: V.junk :: V.junk :: V.junk :: V.junk :: V.junk :: V.junk :: V.junk :: V.junk :: V.junk :: V.junk :: V.junk :: V.junk :: V.junk :: V.junk :: V.junk :: V.junk :: V.junk :: V.junk :: V.junk :: V.junk :: V.junk :: V.junk :: V.junk :: V.junk :: V.junk :: V.junk :: V.junk :: V.junk :: V.junk :: V.junk :: V.junk :: V.junk :: V.junk :: V.junk :: V.junk :: V.junk :: V.junk :: V.junk :: V.junk :: V.junk :: V.junk :: V.junk :: V.junk :: V.junk :: V.junk :: V.junk :: V.junk :: V.junk :: V.junk :: V.junk :: V.junk :: V.junk :: V.junk :: V.junk :: V.junk :: V.junk :: [])) [.live (a.map byteV), .live (b'.map byteV)] := fun b' hb' => by
    refine hK _ _ ?_; clear hK hL K
    refine awp_seq fun K hK => ?_
    refine awp_seq fun K2 hK2 => ?_
    refine awp_region ?_
    have hne : ∀ l : List UInt8, l.length = 16 → l ≠ [] := fun l hl e => by subst e; simp at hl
    have ht : ∀ l : List UInt8, l.length = 16 → List.take 16 (l.map byteV) = l.map byteV := fun l hl => List.take_of_length_le (by simp [hl])
    refine arun_go (by simp; done) fun K9 h9 => ?_
    simp [hne a ha, ht a ha, ha]
    refine h9 _ _ ?_
    clear h9 K9; dsimp only [sput, sset]
    refine arun_go (by simp; done) fun K9 h9 => ?_
    simp [hne b' hb', ht b' hb', hb']
    refine h9 _ _ ?_
    clear h9 K9; dsimp only [sput, sset]
    refine arun_go (by simp; done) fun K9 h9 => ?_
    simp [aeq22 18 ha hb']
    refine h9 _ _ ?_
    clear h9 K9; dsimp only [sput, sset]
    refine arun_end ?_
    refine hK2 _ _ ?_; clear hK2 K2
    refine awp_cond rfl (fun h => ?_) (fun h => ?_)
    · refine awp_seq fun K2 hK2 => ?_
      refine awp_region ?_
      refine arun_go (by simp; done) fun K9 h9 => ?_
      simp
      refine acall_pure awake11_call (by simp) (h9 _ _ ?_)
      clear h9 K9; dsimp only [sput, sset]
      iterate 1 (first | (refine arun_no ?_ ?_; (focus (simp; done)); dsimp only [sput, sset]) | (refine arun_go (by simp; done) fun K9 h9 => ?_; simp; refine h9 _ _ ?_; clear h9 K9; dsimp only [sput, sset]))
      refine arun_end ?_
      refine hK2 _ _ ?_; clear hK2 K2
      refine awp_ret ?_
      simp
      exact .pure .bool
    · refine awp_skip ?_
      refine hK _ _ ?_; clear hK K
      have hab : a ≠ b' := by simpa using h
      have htl : ∀ l : List UInt8, l.length = 16 → List.take 16 l = l := fun l hl => List.take_of_length_le (by simp [hl])
      refine awp_seq fun K hK => ?_
      refine awp_region ?_
      refine arun_go (by simp; done) fun K9 h9 => ?_
      simp [ha, hne a ha]
      refine h9 _ _ ?_
      clear h9 K9; dsimp only [sput, sset]
      refine arun_go (by simp; done) fun K9 h9 => ?_
      simp [ha, ht a ha, htl a ha, Function.comp_def]
      refine h9 _ _ ?_
      clear h9 K9; dsimp only [sput, sset]
      refine arun_go (by simp; done) fun K9 h9 => ?_
      simp
      refine acall_pure (digits_call a (by omega)) (by simp) (h9 _ _ ?_)
      clear h9 K9; dsimp only [sput, sset]
      rw [digR, if_pos ha]
      iterate 5 (first | (refine arun_no ?_ ?_; (focus (simp; done)); dsimp only [sput, sset]) | (refine arun_go (by simp; done) fun K9 h9 => ?_; simp; refine h9 _ _ ?_; clear h9 K9; dsimp only [sput, sset]))
      refine arun_end ?_
      refine hK _ _ ?_; clear hK K
      refine awp_seq fun K hK => ?_
      refine awp_region ?_
      refine arun_go (by simp; done) fun K9 h9 => ?_
      simp [hb', hne b' hb']
      refine h9 _ _ ?_
      clear h9 K9; dsimp only [sput, sset]
      refine arun_go (by simp; done) fun K9 h9 => ?_
      simp [hb', ht b' hb', htl b' hb', Function.comp_def]
      refine h9 _ _ ?_
      clear h9 K9; dsimp only [sput, sset]
      refine arun_go (by simp; done) fun K9 h9 => ?_
      simp
      refine acall_pure (digits_call b' (by omega)) (by simp) (h9 _ _ ?_)
      clear h9 K9; dsimp only [sput, sset]
      rw [digR, if_pos hb']
      iterate 5 (first | (refine arun_no ?_ ?_; (focus (simp; done)); dsimp only [sput, sset]) | (refine arun_go (by simp; done) fun K9 h9 => ?_; simp; refine h9 _ _ ?_; clear h9 K9; dsimp only [sput, sset]))
      refine arun_end ?_
      refine hK _ _ ?_; clear hK K
      refine awp_seq fun K hK => ?_
      refine awp_seq fun K2 hK2 => ?_
      refine awp_region ?_
      iterate 16 (first | (refine arun_no ?_ ?_; (focus (simp; done)); dsimp only [sput, sset]) | (refine arun_go (by simp; done) fun K9 h9 => ?_; simp; refine h9 _ _ ?_; clear h9 K9; dsimp only [sput, sset]))
      refine arun_end ?_
      refine hK2 _ _ ?_; clear hK2 K2
      refine awp_cond rfl (fun h => by simp at h) (fun h => ?_)
      refine awp_skip ?_
      refine hK _ _ ?_; clear hK K
      refine awp_seq fun K hK => ?_
      refine awp_region ?_
      iterate 2 (first | (refine arun_no ?_ ?_; (focus (simp; done)); dsimp only [sput, sset]) | (refine arun_go (by simp; done) fun K9 h9 => ?_; simp; refine h9 _ _ ?_; clear h9 K9; dsimp only [sput, sset]))
      refine arun_end ?_
      refine hK _ _ ?_; clear hK K
      refine awp_seq fun K hK => ?_
      refine awp_seq fun K2 hK2 => ?_
      refine awp_region ?_
      iterate 3 (first | (refine arun_no ?_ ?_; (focus (simp; done)); dsimp only [sput, sset]) | (refine arun_go (by simp; done) fun K9 h9 => ?_; simp; refine h9 _ _ ?_; clear h9 K9; dsimp only [sput, sset]))
      refine arun_end ?_
      refine hK2 _ _ ?_; clear hK2 K2
      refine awp_block ?_
      refine awp_count (fun i => (V.junk :: V.junk :: V.junk :: V.junk :: V.junk :: V.junk :: V.junk :: V.junk :: V.junk :: V.junk :: (V.bool false) :: (V.sl 35 (ints (digs a))) :: V.junk :: (V.sl 35 (ints (digs b'))) :: V.junk :: (V.bool (lessBy (digs a) (digs b') i)) :: (V.bool (lessBy (digs b') (digs a) i)) :: V.junk :: V.junk :: V.junk :: V.junk :: V.junk :: V.junk :: V.junk :: V.junk :: V.junk :: V.junk :: V.junk :: V.junk :: V.junk :: V.junk :: V.junk :: V.junk :: V.junk :: V.junk :: V.junk :: V.junk :: V.junk :: V.junk :: V.junk :: V.junk :: V.junk :: V.junk :: V.junk :: V.junk :: V.junk :: V.junk :: V.junk :: V.junk :: V.junk :: V.junk :: V.junk :: V.junk :: V.junk :: V.junk :: V.junk :: V.junk :: (V.int .i64 35) :: (V.int .i64 i) :: V.junk :: V.junk :: V.junk :: V.junk :: V.junk :: V.junk :: V.junk :: V.junk :: V.junk :: V.junk :: V.junk :: V.junk :: V.junk :: V.junk :: V.junk :: V.junk :: V.junk :: V.junk :: V.junk :: V.junk :: V.junk :: V.junk :: V.junk :: V.junk :: V.junk :: V.junk :: V.junk :: V.junk :: V.junk :: V.junk :: V.junk :: V.junk :: V.junk :: V.junk :: []))
        (fun i => []) 35 (Le.drop (by simp [lessBy])) fun i hi K2 hK2 => ?_
      refine awp_seq fun K3 hK3 => ?_
      refine awp_region ?_
      iterate 1 (first | (refine arun_no ?_ ?_; (focus (simp; done)); dsimp only [sput, sset]) | (refine arun_go (by simp; done) fun K9 h9 => ?_; simp; refine h9 _ _ ?_; clear h9 K9; dsimp only [sput, sset]))
      refine arun_end ?_
      refine hK3 _ _ ?_; clear hK3 K3
      refine awp_seq fun K3 hK3 => ?_
      refine awp_cond rfl (fun h => ?_) (fun h => ?_)
      · refine awp_skip ?_
        refine hK3 _ _ ?_; clear hK3 K3
        have hi : i < 35 := by simp at h; omega
        have hi' : (i : Int) < 35 := by omega
        refine awp_seq fun K3 hK3 => ?_
        refine awp_block ?_
        refine awp_seq fun K4 hK4 => ?_
        refine awp_region ?_
        iterate 2 (first | (refine arun_no ?_ ?_; (focus (simp; done)); dsimp only [sput, sset]) | (refine arun_go (by simp; done) fun K9 h9 => ?_; simp; refine h9 _ _ ?_; clear h9 K9; dsimp only [sput, sset]))
        refine arun_end ?_
        refine hK4 _ _ ?_; clear hK4 K4
        obtain ⟨X, hX⟩ : ∃ X, (digs a)[i]? = some X := ⟨(digs a)[i]'(by rw [digs_length a ha]; exact hi), List.getElem?_eq_getElem _⟩
        obtain ⟨Y, hY⟩ : ∃ Y, (digs b')[i]? = some Y := ⟨(digs b')[i]'(by rw [digs_length b' hb']; exact hi), List.getElem?_eq_getElem _⟩
        have hx : (ints (digs a))[i]? = some (.int .i64 X) := by simp [ints, hX]
        have hy : (ints (digs b'))[i]? = some (.int .i64 Y) := by simp [ints, hY]
        have e1 : lessBy (digs a) (digs b') (i + 1) = (lessBy (digs a) (digs b') i || decide (X < Y)) := by rw [lessBy_succ]; simp [hX, hY]
        have e2 : lessBy (digs b') (digs a) (i + 1) = (lessBy (digs b') (digs a) i || decide (Y < X)) := by rw [lessBy_succ]; simp [hX, hY]
        refine awp_region_draw (by kernel_rfl) [] (by kernel_rfl) (m := 0) (by kernel_rfl) ?_
        dsimp only [List.replicate, List.append_nil]
        generalize lessBy (digs a) (digs b') i = L at *
        generalize lessBy (digs b') (digs a) i = M at *
        cases L <;> cases M <;> (
          iterate 26 (first | (refine arunD_no ?_ ?_; (focus (simp; done)); dsimp only [sput, sset, List.tail, opNew, Bool.false_eq_true, reduceIte, if_false]) | (refine arunD_go (by simp; done) fun K9 h9 => ?_; simp [hx, hy, hi']; refine h9 _ _ ?_; clear h9 K9; dsimp only [sput, sset, List.tail, opNew, Bool.false_eq_true, reduceIte, if_false]))
          refine arunD_end ?_
          refine hK3 _ _ ?_
          refine awp_region ?_
          iterate 2 (first | (refine arun_no ?_ ?_; (focus (simp; done)); dsimp only [sput, sset]) | (refine arun_go (by simp; done) fun K9 h9 => ?_; simp; refine h9 _ _ ?_; clear h9 K9; dsimp only [sput, sset]))
          refine arun_end ?_
          refine hK2 _ _ hi (Le.drop (by simp [e1, e2]; exact wrap_i64 (by omega) (by omega))))
      · refine awp_exit ?_
        have hil : i = 35 := by simp at h; omega
        subst hil
        refine hK _ _ ?_; clear hK3 K3 hK2 K2 hK K
        rw [less_of_ne ha hb' hab, less_of_ne hb' ha (Ne.symm hab)]
        refine awp_seq fun K hK => ?_
        refine awp_region ?_
        refine arun_go (by simp; done) fun K9 h9 => ?_
        simp
        refine acall_pure awake11_call (by simp) (h9 _ _ ?_)
        clear h9 K9; dsimp only [sput, sset]
        iterate 7 (first | (refine arun_no ?_ ?_; (focus (simp; done)); dsimp only [sput, sset]) | (refine arun_go (by simp; done) fun K9 h9 => ?_; simp; refine h9 _ _ ?_; clear h9 K9; dsimp only [sput, sset]))
        refine arun_end ?_
        refine hK _ _ ?_; clear hK K
        refine awp_ret ?_
        simp
        exact .pure .bool
  refine awp_seq fun K2 hK2 => ?_
  refine awp_region ?_
  iterate 1 (first | (refine arun_no ?_ ?_; (focus (simp; done)); dsimp only [sput, sset]) | (refine arun_go (by simp; done) fun K9 h9 => ?_; simp; refine h9 _ _ ?_; clear h9 K9; dsimp only [sput, sset]))
  refine arun_end ?_
  refine hK2 _ _ ?_; clear hK2 K2
  refine awp_cond rfl (fun h => ?_) (fun h => ?_)
  · refine awp_seq fun K2 hK2 => ?_
    refine awp_region ?_
    have hne : ∀ l : List UInt8, l.length = 16 → l ≠ [] := fun l hl e => by subst e; simp at hl
    have ht : ∀ l : List UInt8, l.length = 16 → List.take 16 (l.map byteV) = l.map byteV := fun l hl => List.take_of_length_le (by simp [hl])
    refine arun_go (by simp; done) fun K9 h9 => ?_
    simp [hne a ha, ht a ha, ha]
    refine h9 _ _ ?_
    clear h9 K9; dsimp only [sput, sset]
    refine arun_go (by simp; done) fun K9 h9 => ?_
    simp [hne b hb, ha, hb]
    rw [lput_all (by simp [ha, hb])]
    refine h9 _ _ ?_
    clear h9 K9; dsimp only [sput, sset]
    refine arun_end ?_
    refine hK2 _ _ ?_; clear hK2 K2
    refine awp_region ?_
    have hm : (at'.toNat : Int).tmod 16 = ((at'.toNat % 16 : Nat) : Int) := by rw [Int.tmod_eq_emod_of_nonneg (by omega)]; simp
    have hj : at'.toNat % 16 < 16 := Nat.mod_lt _ (by omega)
    generalize at'.toNat % 16 = j at hm hj
    iterate 1 (first | (refine arun_no ?_ ?_; (focus (simp; done)); dsimp only [sput, sset]) | (refine arun_go (by simp; done) fun K9 h9 => ?_; simp; refine h9 _ _ ?_; clear h9 K9; dsimp only [sput, sset]))
    refine arun_go (by simp; done) fun K9 h9 => ?_
    simp [byteV, hm]
    refine h9 _ _ ?_
    clear h9 K9; dsimp only [sput, sset]
    iterate 1 (first | (refine arun_no ?_ ?_; (focus (simp; done)); dsimp only [sput, sset]) | (refine arun_go (by simp; done) fun K9 h9 => ?_; simp; refine h9 _ _ ?_; clear h9 K9; dsimp only [sput, sset]))
    refine arun_go (by simp; done) fun K9 h9 => ?_
    simp [hj]
    refine h9 _ _ ?_
    clear h9 K9; dsimp only [sput, sset]
    refine arun_go (by simp; done) fun K9 h9 => ?_
    simp [hne a ha, ha, hj]
    refine ⟨by omega, h9 _ _ ?_⟩
    clear h9 K9; dsimp only [sput, sset]
    refine arun_end ?_
    refine hL _ _ _ _ (Le.mk [some 0, some 1] (by simp) (rowsRen_of (by simp) (by simp [rowsOver]; exact rowRen_eq (by simp) (bytes_set_pure a j c))) (by simp)) (main (a.set j c) (by simp [ha]))
  · refine awp_skip ?_
    refine hL _ _ _ _ (Le.mk [some 0, some 1] (by simp) (rowsRen_of (by simp) (by simp [rowsOver])) (by simp)) (main b hb)
end Go.Proofs.Ytllehihgfbkgpaa
