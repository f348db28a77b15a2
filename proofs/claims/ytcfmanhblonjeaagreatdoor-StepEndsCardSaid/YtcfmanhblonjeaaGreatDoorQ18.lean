/-
  STEP: bases, general names, subtrees from a deck.
  Conditions: none.
-/
import Derived.Test.YtcfmanhblonjeaaGreatDoorGe
import Derived.Test.YtcfmanhblonjeaaGreatDoorGf
import Derived.Test.YtcfmanhblonjeaaGreatDoorGg
import Derived.Test.YtcfmanhblonjeaaGreatDoorGh
import Derived.Test.YtcfmanhblonjeaaGreatDoorGj
import Derived.Test.YtcfmanhblonjeaaGreatDoorGl
import Derived.Test.YtcfmanhblonjeaaGreatDoorQ16
import Derived.Test.YtcfmanhblonjeaaGreatDoorQ17
import Derived.Test.YtcfmanhblonjeaaGreatDoorTab
import Derived.Test.YtcfmanhblonjeaaGreatDoorGd
import Derived.Test.YtcfmanhblonjeaaGreatDoorGi
namespace Go.Stp
open Go.VS
theorem mcall_nzt {P : Program} {f : FuncId} {args row row' : List V} {r : V} (h : MCall P f args row row' r) {r' : V} (e : nzt r = r') : MCall P f args row row' r' :=
  ⟨h.1, fun w ro ρ vs g go ha => (h.2 w ro ρ vs g go ha).mono fun e' w' ⟨v, r1, rows', ro', ρ', h1, ⟨h2, h2'⟩, h3, h4⟩ => by
    subst h2; subst e
    exact ⟨_, _, rows', ro', ρ', h1, ⟨rfl, h2'⟩, h3, rd_nzt h4⟩⟩
def baseM : List (List UInt8) := [[97, 110, 110, 64, 101, 120, 97, 109, 112, 108, 101, 46, 111, 114, 103], [101, 120, 97, 109, 112, 108, 101, 46, 111, 114, 103], [46, 101, 120, 97, 109, 112, 108, 101, 46, 111, 114, 103], [69, 88, 65, 77, 80, 76, 69, 46, 111, 114, 103], [46, 111, 114, 103], [111, 114, 103], [109, 97, 105, 108, 46, 101, 120, 97, 109, 112, 108, 101, 46, 111, 114, 103]]
def baseD : List (List UInt8) := [[101, 120, 97, 109, 112, 108, 101, 46, 111, 114, 103], [119, 119, 119, 46, 101, 120, 97, 109, 112, 108, 101, 46, 111, 114, 103], [], [69, 120, 97, 109, 112, 108, 101, 46, 79, 82, 71], [111, 114, 103], [98], [97, 46, 98]]
def baseA : List (List UInt8) := [[10, 0, 0, 0, 255, 0, 0, 0], [10, 1, 0, 0, 255, 255, 0, 0], [0, 0, 0, 0, 0, 0, 0, 0], [10, 1, 2, 3, 255, 255, 255, 255], [32, 1, 0, 0, 0, 0, 0, 0, 0, 0, 0, 0, 0, 0, 0, 0, 255, 255, 0, 0, 0, 0, 0, 0, 0, 0, 0, 0, 0, 0, 0, 0]]
def genM : List (List UInt8) := [[97, 110, 110, 64, 101, 120, 97, 109, 112, 108, 101, 46, 111, 114, 103], [65, 78, 78, 64, 101, 120, 97, 109, 112, 108, 101, 46, 111, 114, 103], [97, 110, 110, 64, 69, 120, 97, 109, 112, 108, 101, 46, 79, 82, 71], [98, 46, 99, 64, 109, 97, 105, 108, 46, 101, 120, 97, 109, 112, 108, 101, 46, 111, 114, 103], [120, 64, 111, 114, 103], [97, 39, 98, 64, 97, 46, 98]]
def genD : List (List UInt8) := [[101, 120, 97, 109, 112, 108, 101, 46, 111, 114, 103], [119, 119, 119, 46, 101, 120, 97, 109, 112, 108, 101, 46, 111, 114, 103], [87, 87, 87, 46, 69, 120, 97, 109, 112, 108, 101, 46, 111, 114, 103], [42, 46, 101, 120, 97, 109, 112, 108, 101, 46, 111, 114, 103], [97, 46, 98], [111, 114, 103], [109, 121, 101, 120, 97, 109, 112, 108, 101, 46, 111, 114, 103]]
def genA : List (List UInt8) := [[10, 0, 0, 1], [10, 1, 2, 3], [192, 168, 1, 7], [32, 1, 13, 184, 0, 0, 0, 0, 0, 0, 0, 0, 0, 0, 0, 1]]
end Go.Stp
namespace Go.Proofs.YtcfmanhblonjeaaGreatDoor
open Go.VS Go.Stp
set_option linter.all false
set_option maxRecDepth 100000
set_option maxHeartbeats 8000000
def baseS (l : List Int) (a : Nat) : Gn × Nat :=
  if dkX l a 4 = 0 then (⟨1, baseM.getD (dkX l (dkA l a) 7).toNat [], []⟩, dkA l (dkA l a))
  else if dkX l a 4 = 1 then (⟨2, baseD.getD (dkX l (dkA l a) 7).toNat [], []⟩, dkA l (dkA l a))
  else if dkX l a 4 = 2 then (⟨7, baseA.getD (dkX l (dkA l a) 5).toNat [], []⟩, dkA l (dkA l a))
  else (⟨4, [], (nameS l (dkA l a)).1⟩, (nameS l (dkA l a)).2)
theorem baseS_le {l : List Int} {a : Nat} (h : a ≤ l.length) : (baseS l a).2 ≤ l.length := by
  have h1 := dkA_le (dkA_le h)
  have h2 := nameS_le (dkA_le h)
  unfold baseS
  split
  · exact h1
  split
  · exact h1
  split
  · exact h1
  · exact h2
theorem baseS_wn {l : List Int} {a : Nat} : WE (baseS l a).1 := by
  have h0 : WN [] := ⟨by simp, by simp⟩
  have hl : ∀ (L : List (List UInt8)) (i : Nat), (∀ x ∈ L, x.length ≤ 65536) → (L.getD i []).length ≤ 65536 := fun L i h => by
    rw [List.getD_eq_getElem?_getD]
    by_cases hi : i < L.length
    · rw [List.getElem?_eq_getElem hi]; exact h _ (List.getElem_mem hi)
    · rw [List.getElem?_eq_none (by omega)]; simp
  unfold baseS
  split
  · exact ⟨h0, hl baseM _ (by decide)⟩
  split
  · exact ⟨h0, hl baseD _ (by decide)⟩
  split
  · exact ⟨h0, hl baseA _ (by decide)⟩
  · exact ⟨nameS_wn, by simp⟩

def genS (l : List Int) (a : Nat) : Gn × Nat :=
  if dkX l a 4 = 0 then (⟨1, genM.getD (dkX l (dkA l a) 6).toNat [], []⟩, dkA l (dkA l a))
  else if dkX l a 4 = 1 then (⟨2, genD.getD (dkX l (dkA l a) 7).toNat [], []⟩, dkA l (dkA l a))
  else if dkX l a 4 = 2 then (⟨7, genA.getD (dkX l (dkA l a) 4).toNat [], []⟩, dkA l (dkA l a))
  else (⟨4, [], (nameS l (dkA l a)).1⟩, (nameS l (dkA l a)).2)
theorem genS_le {l : List Int} {a : Nat} (h : a ≤ l.length) : (genS l a).2 ≤ l.length := by
  have h1 := dkA_le (dkA_le h)
  have h2 := nameS_le (dkA_le h)
  unfold genS
  split
  · exact h1
  split
  · exact h1
  split
  · exact h1
  · exact h2
theorem genS_wn {l : List Int} {a : Nat} : WE (genS l a).1 := by
  have h0 : WN [] := ⟨by simp, by simp⟩
  have hl : ∀ (L : List (List UInt8)) (i : Nat), (∀ x ∈ L, x.length ≤ 65536) → (L.getD i []).length ≤ 65536 := fun L i h => by
    rw [List.getD_eq_getElem?_getD]
    by_cases hi : i < L.length
    · rw [List.getElem?_eq_getElem hi]; exact h _ (List.getElem_mem hi)
    · rw [List.getElem?_eq_none (by omega)]; simp
  unfold genS
  split
  · exact ⟨h0, hl genM _ (by decide)⟩
  split
  · exact ⟨h0, hl genD _ (by decide)⟩
  split
  · exact ⟨h0, hl genA _ (by decide)⟩
  · exact ⟨nameS_wn, by simp⟩

attribute [local irreducible] arun arunD AWp aend
theorem base_call (l : List Int) (a : Nat) (hl : l.length ≤ 140737488355328) (ha : a ≤ l.length) (hr : ∀ k ∈ l, -9223372036854775808 ≤ k ∧ k ≤ 9223372036854775807) :
    MCall Tryz.prog 44 [.ref 0 0] (dk l a) (dk l (baseS l a).2) (.agg (baseS l a).1.c) := by
  have n4 : MCall Tryz.prog 7 [.ref 0 0, .int .i64 4] (dk l (a)) (dk l (dkA l (a))) (.int .i64 (dkX l (a) 4)) := next_call l (a) 4 hl (ha) (by omega) (by omega) hr
  have b4 := dkX_bounds (l := l) (a := a) (n := 4) (by omega)
  have ha1 := dkA_le ha
  have nM : MCall Tryz.prog 7 [.ref 0 0, .int .i64 7] (dk l (dkA l a)) (dk l (dkA l (dkA l a))) (.int .i64 (dkX l (dkA l a) 7)) := next_call l (dkA l a) 7 hl (ha1) (by omega) (by omega) hr
  have bM := dkX_bounds (l := l) (a := dkA l a) (n := 7) (by omega)
  have nD : MCall Tryz.prog 7 [.ref 0 0, .int .i64 7] (dk l (dkA l a)) (dk l (dkA l (dkA l a))) (.int .i64 (dkX l (dkA l a) 7)) := next_call l (dkA l a) 7 hl (ha1) (by omega) (by omega) hr
  have bD := dkX_bounds (l := l) (a := dkA l a) (n := 7) (by omega)
  have nA : MCall Tryz.prog 7 [.ref 0 0, .int .i64 5] (dk l (dkA l a)) (dk l (dkA l (dkA l a))) (.int .i64 (dkX l (dkA l a) 5)) := next_call l (dkA l a) 5 hl (ha1) (by omega) (by omega) hr
  have bA := dkX_bounds (l := l) (a := dkA l a) (n := 5) (by omega)
  have hN := name_call l (dkA l a) hl ha1 hr
  unfold baseS
  clear hr ha hl ha1
  generalize dkX l a 4 = x at *
  generalize nameS l (dkA l a) = nm at *
  generalize dkX l (dkA l a) 5 = z2 at *
  generalize dkX l (dkA l a) 7 = z1 at *
  generalize dkA l (dkA l a) = a2 at *
  generalize dkA l a = a1 at *
  have hx : x = 0 ∨ x = 1 ∨ x = 2 ∨ x = 3 := by omega
  by_cases h0 : x = 0
  · subst h0
    rw [if_pos rfl]
    have hz : z1 = 0 ∨ z1 = 1 ∨ z1 = 2 ∨ z1 = 3 ∨ z1 = 4 ∨ z1 = 5 ∨ z1 = 6 := by omega
    refine mcall_nzt (r := .agg [.int .i64 1, .str (baseM.getD z1.toNat []), .nils]) ?_ rfl
    clear hN nD nA hx bM bD bA b4
    refine mcall_body Tryz.func44 rfl Tryz.call44 ?_ ?_ ?_
    rotate_left 2
    refine awp_slots (s' := (.ref 0 0 : V) :: zJ 31) rfl ?_; dsimp only [zJ]
    · rcases hz with rfl | rfl | rfl | rfl | rfl | rfl | rfl
      all_goals (
        repeat' (first | (refine Y0 rfl fun K9 h9 => ?_; simp (disch := first | exact dd | fail); (try simp (disch := first | exact de | fail) only [X7]); ((first | refine acall_mutd n4 rfl (dk_pures _ _) (dk_pures _ _) .int (by simp) ?_ | refine acall_mutd nM rfl (dk_pures _ _) (dk_pures _ _) .int (by simp) ?_ | skip) <;> ((repeat (refine Yz ?_)); (first | refine h9 _ _ (Ys ?_)); clear h9 K9))) | refine Y6 ?_ | (refine Y8 fun K hK => ?_) | refine Y9 ?_ | (apply hK; clear hK K) | refine Ya ?_ | (refine Yb rfl ?_ ?_ <;> intro hcnd <;> (try simp at hcnd) <;> try exact dc) | refine Yc ?_ | (refine Ye ?_; refine Yf ?_) | refine Yg ?_ | (simp only [X0, Nat.reduceBEq]) | clear hK K)
        simp [baseM]
        exact mend_plain)
    · simp
    · exact dk_pures _ _
  by_cases h1 : x = 1
  · subst h1
    simp only [reduceCtorEq, Int.reduceEq, if_false, if_true]
    have hz : z1 = 0 ∨ z1 = 1 ∨ z1 = 2 ∨ z1 = 3 ∨ z1 = 4 ∨ z1 = 5 ∨ z1 = 6 := by omega
    refine mcall_nzt (r := .agg [.int .i64 2, .str (baseD.getD z1.toNat []), .nils]) ?_ rfl
    clear hN nM nA hx bM bD bA b4
    refine mcall_body Tryz.func44 rfl Tryz.call44 ?_ ?_ ?_
    rotate_left 2
    refine awp_slots (s' := (.ref 0 0 : V) :: zJ 31) rfl ?_; dsimp only [zJ]
    · rcases hz with rfl | rfl | rfl | rfl | rfl | rfl | rfl
      all_goals (
        repeat' (first | (refine Y0 rfl fun K9 h9 => ?_; simp (disch := first | exact dd | fail); (try simp (disch := first | exact de | fail) only [X7]); ((first | refine acall_mutd n4 rfl (dk_pures _ _) (dk_pures _ _) .int (by simp) ?_ | refine acall_mutd nD rfl (dk_pures _ _) (dk_pures _ _) .int (by simp) ?_ | skip) <;> ((repeat (refine Yz ?_)); (first | refine h9 _ _ (Ys ?_)); clear h9 K9))) | refine Y6 ?_ | (refine Y8 fun K hK => ?_) | refine Y9 ?_ | (apply hK; clear hK K) | refine Ya ?_ | (refine Yb rfl ?_ ?_ <;> intro hcnd <;> (try simp at hcnd) <;> try exact dc) | refine Yc ?_ | (refine Ye ?_; refine Yf ?_) | refine Yg ?_ | (simp only [X0, Nat.reduceBEq]) | clear hK K)
        simp [baseD]
        exact mend_plain)
    · simp
    · exact dk_pures _ _
  by_cases h2 : x = 2
  · subst h2
    simp only [reduceCtorEq, Int.reduceEq, if_false, if_true]
    have hz : z2 = 0 ∨ z2 = 1 ∨ z2 = 2 ∨ z2 = 3 ∨ z2 = 4 := by omega
    refine mcall_nzt (r := .agg [.int .i64 7, .str (baseA.getD z2.toNat []), .nils]) ?_ rfl
    clear hN nM nD hx bM bD bA b4
    refine mcall_body Tryz.func44 rfl Tryz.call44 ?_ ?_ ?_
    rotate_left 2
    refine awp_slots (s' := (.ref 0 0 : V) :: zJ 31) rfl ?_; dsimp only [zJ]
    · rcases hz with rfl | rfl | rfl | rfl | rfl
      all_goals (
        repeat' (first | (refine Y0 rfl fun K9 h9 => ?_; simp (disch := first | exact dd | fail); (try simp (disch := first | exact de | fail) only [X7]); ((first | refine acall_mutd n4 rfl (dk_pures _ _) (dk_pures _ _) .int (by simp) ?_ | refine acall_mutd nA rfl (dk_pures _ _) (dk_pures _ _) .int (by simp) ?_ | skip) <;> ((repeat (refine Yz ?_)); (first | refine h9 _ _ (Ys ?_)); clear h9 K9))) | refine Y6 ?_ | (refine Y8 fun K hK => ?_) | refine Y9 ?_ | (apply hK; clear hK K) | refine Ya ?_ | (refine Yb rfl ?_ ?_ <;> intro hcnd <;> (try simp at hcnd) <;> try exact dc) | refine Yc ?_ | (refine Ye ?_; refine Yf ?_) | refine Yg ?_ | (simp only [X0, Nat.reduceBEq]) | clear hK K)
        simp [baseA]
        exact mend_plain)
    · simp
    · exact dk_pures _ _
  obtain rfl : x = 3 := by omega
  simp only [reduceCtorEq, Int.reduceEq, if_false]
  clear nM nD nA hx bM bD bA b4 h0 h1 h2
  obtain ⟨nm, b⟩ := nm
  dsimp only at *
  refine mcall_body Tryz.func44 rfl Tryz.call44 ?_ ?_ ?_
  rotate_left 2
  refine awp_slots (s' := (.ref 0 0 : V) :: zJ 31) rfl ?_; dsimp only [zJ]
  · repeat' (first | (refine Y0 rfl fun K9 h9 => ?_; simp (disch := first | exact dd | fail); (try simp (disch := first | exact de | fail) only [X7]); ((first | refine acall_mutd n4 rfl (dk_pures _ _) (dk_pures _ _) .int (by simp) ?_ | refine acall_mutd hN rfl (dk_pures _ _) (dk_pures _ _) (by simp) (by simp) ?_ | skip) <;> ((repeat (refine Yz ?_)); (first | refine h9 _ _ (Ys ?_)); clear h9 K9))) | refine Y6 ?_ | (refine Y8 fun K hK => ?_) | refine Y9 ?_ | (apply hK; clear hK K) | refine Ya ?_ | (refine Yb rfl ?_ ?_ <;> intro hcnd <;> (try simp at hcnd) <;> try exact dc) | refine Yc ?_ | (refine Ye ?_; refine Yf ?_) | refine Yg ?_ | (simp only [X0, Nat.reduceBEq]) | clear hK K)
    simp [Gn.c, nmV]
    exact mend_plain
  · simp
  · exact dk_pures _ _

theorem gen_call (l : List Int) (a : Nat) (hl : l.length ≤ 140737488355328) (ha : a ≤ l.length) (hr : ∀ k ∈ l, -9223372036854775808 ≤ k ∧ k ≤ 9223372036854775807) :
    MCall Tryz.prog 29 [.ref 0 0] (dk l a) (dk l (genS l a).2) (.agg (genS l a).1.c) := by
  have n4 : MCall Tryz.prog 7 [.ref 0 0, .int .i64 4] (dk l (a)) (dk l (dkA l (a))) (.int .i64 (dkX l (a) 4)) := next_call l (a) 4 hl (ha) (by omega) (by omega) hr
  have b4 := dkX_bounds (l := l) (a := a) (n := 4) (by omega)
  have ha1 := dkA_le ha
  have nM : MCall Tryz.prog 7 [.ref 0 0, .int .i64 6] (dk l (dkA l a)) (dk l (dkA l (dkA l a))) (.int .i64 (dkX l (dkA l a) 6)) := next_call l (dkA l a) 6 hl (ha1) (by omega) (by omega) hr
  have bM := dkX_bounds (l := l) (a := dkA l a) (n := 6) (by omega)
  have nD : MCall Tryz.prog 7 [.ref 0 0, .int .i64 7] (dk l (dkA l a)) (dk l (dkA l (dkA l a))) (.int .i64 (dkX l (dkA l a) 7)) := next_call l (dkA l a) 7 hl (ha1) (by omega) (by omega) hr
  have bD := dkX_bounds (l := l) (a := dkA l a) (n := 7) (by omega)
  have nA : MCall Tryz.prog 7 [.ref 0 0, .int .i64 4] (dk l (dkA l a)) (dk l (dkA l (dkA l a))) (.int .i64 (dkX l (dkA l a) 4)) := next_call l (dkA l a) 4 hl (ha1) (by omega) (by omega) hr
  have bA := dkX_bounds (l := l) (a := dkA l a) (n := 4) (by omega)
  have hN := name_call l (dkA l a) hl ha1 hr
  unfold genS
  clear hr ha hl ha1
  generalize dkX l a 4 = x at *
  generalize nameS l (dkA l a) = nm at *
  generalize dkX l (dkA l a) 4 = z2 at *
  generalize dkX l (dkA l a) 7 = z1 at *
  generalize dkX l (dkA l a) 6 = z0 at *
  generalize dkA l (dkA l a) = a2 at *
  generalize dkA l a = a1 at *
  have hx : x = 0 ∨ x = 1 ∨ x = 2 ∨ x = 3 := by omega
  by_cases h0 : x = 0
  · subst h0
    rw [if_pos rfl]
    have hz : z0 = 0 ∨ z0 = 1 ∨ z0 = 2 ∨ z0 = 3 ∨ z0 = 4 ∨ z0 = 5 := by omega
    refine mcall_nzt (r := .agg [.int .i64 1, .str (genM.getD z0.toNat []), .nils]) ?_ rfl
    clear hN nD nA hx bM bD bA b4
    refine mcall_body Tryz.func29 rfl Tryz.call29 ?_ ?_ ?_
    rotate_left 2
    refine awp_slots (s' := (.ref 0 0 : V) :: zJ 31) rfl ?_; dsimp only [zJ]
    · rcases hz with rfl | rfl | rfl | rfl | rfl | rfl
      all_goals (
        repeat' (first | (refine Y0 rfl fun K9 h9 => ?_; simp (disch := first | exact dd | fail); (try simp (disch := first | exact de | fail) only [X7]); ((first | refine acall_mutd n4 rfl (dk_pures _ _) (dk_pures _ _) .int (by simp) ?_ | refine acall_mutd nM rfl (dk_pures _ _) (dk_pures _ _) .int (by simp) ?_ | skip) <;> ((repeat (refine Yz ?_)); (first | refine h9 _ _ (Ys ?_)); clear h9 K9))) | refine Y6 ?_ | (refine Y8 fun K hK => ?_) | refine Y9 ?_ | (apply hK; clear hK K) | refine Ya ?_ | (refine Yb rfl ?_ ?_ <;> intro hcnd <;> (try simp at hcnd) <;> try exact dc) | refine Yc ?_ | (refine Ye ?_; refine Yf ?_) | refine Yg ?_ | (simp only [X0, Nat.reduceBEq]) | clear hK K)
        simp [genM]
        exact mend_plain)
    · simp
    · exact dk_pures _ _
  by_cases h1 : x = 1
  · subst h1
    simp only [reduceCtorEq, Int.reduceEq, if_false, if_true]
    have hz : z1 = 0 ∨ z1 = 1 ∨ z1 = 2 ∨ z1 = 3 ∨ z1 = 4 ∨ z1 = 5 ∨ z1 = 6 := by omega
    refine mcall_nzt (r := .agg [.int .i64 2, .str (genD.getD z1.toNat []), .nils]) ?_ rfl
    clear hN nM nA hx bM bD bA b4
    refine mcall_body Tryz.func29 rfl Tryz.call29 ?_ ?_ ?_
    rotate_left 2
    refine awp_slots (s' := (.ref 0 0 : V) :: zJ 31) rfl ?_; dsimp only [zJ]
    · rcases hz with rfl | rfl | rfl | rfl | rfl | rfl | rfl
      all_goals (
        repeat' (first | (refine Y0 rfl fun K9 h9 => ?_; simp (disch := first | exact dd | fail); (try simp (disch := first | exact de | fail) only [X7]); ((first | refine acall_mutd n4 rfl (dk_pures _ _) (dk_pures _ _) .int (by simp) ?_ | refine acall_mutd nD rfl (dk_pures _ _) (dk_pures _ _) .int (by simp) ?_ | skip) <;> ((repeat (refine Yz ?_)); (first | refine h9 _ _ (Ys ?_)); clear h9 K9))) | refine Y6 ?_ | (refine Y8 fun K hK => ?_) | refine Y9 ?_ | (apply hK; clear hK K) | refine Ya ?_ | (refine Yb rfl ?_ ?_ <;> intro hcnd <;> (try simp at hcnd) <;> try exact dc) | refine Yc ?_ | (refine Ye ?_; refine Yf ?_) | refine Yg ?_ | (simp only [X0, Nat.reduceBEq]) | clear hK K)
        simp [genD]
        exact mend_plain)
    · simp
    · exact dk_pures _ _
  by_cases h2 : x = 2
  · subst h2
    simp only [reduceCtorEq, Int.reduceEq, if_false, if_true]
    have hz : z2 = 0 ∨ z2 = 1 ∨ z2 = 2 ∨ z2 = 3 := by omega
    refine mcall_nzt (r := .agg [.int .i64 7, .str (genA.getD z2.toNat []), .nils]) ?_ rfl
    clear hN nM nD hx bM bD bA b4
    refine mcall_body Tryz.func29 rfl Tryz.call29 ?_ ?_ ?_
    rotate_left 2
    refine awp_slots (s' := (.ref 0 0 : V) :: zJ 31) rfl ?_; dsimp only [zJ]
    · rcases hz with rfl | rfl | rfl | rfl
      all_goals (
        repeat' (first | (refine Y0 rfl fun K9 h9 => ?_; simp (disch := first | exact dd | fail); (try simp (disch := first | exact de | fail) only [X7]); ((first | refine acall_mutd n4 rfl (dk_pures _ _) (dk_pures _ _) .int (by simp) ?_ | refine acall_mutd nA rfl (dk_pures _ _) (dk_pures _ _) .int (by simp) ?_ | skip) <;> ((repeat (refine Yz ?_)); (first | refine h9 _ _ (Ys ?_)); clear h9 K9))) | refine Y6 ?_ | (refine Y8 fun K hK => ?_) | refine Y9 ?_ | (apply hK; clear hK K) | refine Ya ?_ | (refine Yb rfl ?_ ?_ <;> intro hcnd <;> (try simp at hcnd) <;> try exact dc) | refine Yc ?_ | (refine Ye ?_; refine Yf ?_) | refine Yg ?_ | (simp only [X0, Nat.reduceBEq]) | clear hK K)
        simp [genA]
        exact mend_plain)
    · simp
    · exact dk_pures _ _
  obtain rfl : x = 3 := by omega
  simp only [reduceCtorEq, Int.reduceEq, if_false]
  clear nM nD nA hx bM bD bA b4 h0 h1 h2
  obtain ⟨nm, b⟩ := nm
  dsimp only at *
  refine mcall_body Tryz.func29 rfl Tryz.call29 ?_ ?_ ?_
  rotate_left 2
  refine awp_slots (s' := (.ref 0 0 : V) :: zJ 31) rfl ?_; dsimp only [zJ]
  · repeat' (first | (refine Y0 rfl fun K9 h9 => ?_; simp (disch := first | exact dd | fail); (try simp (disch := first | exact de | fail) only [X7]); ((first | refine acall_mutd n4 rfl (dk_pures _ _) (dk_pures _ _) .int (by simp) ?_ | refine acall_mutd hN rfl (dk_pures _ _) (dk_pures _ _) (by simp) (by simp) ?_ | skip) <;> ((repeat (refine Yz ?_)); (first | refine h9 _ _ (Ys ?_)); clear h9 K9))) | refine Y6 ?_ | (refine Y8 fun K hK => ?_) | refine Y9 ?_ | (apply hK; clear hK K) | refine Ya ?_ | (refine Yb rfl ?_ ?_ <;> intro hcnd <;> (try simp at hcnd) <;> try exact dc) | refine Yc ?_ | (refine Ye ?_; refine Yf ?_) | refine Yg ?_ | (simp only [X0, Nat.reduceBEq]) | clear hK K)
    simp [Gn.c, nmV]
    exact mend_plain
  · simp
  · exact dk_pures _ _

end Go.Proofs.YtcfmanhblonjeaaGreatDoor

