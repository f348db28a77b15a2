/-
  STEP: policies, mappings, points from a deck (told by what they fulfil).
  Conditions: none.
-/
import Derived.Test.YtcfmanhblonjeaaGreatDoorGe
import Derived.Test.YtcfmanhblonjeaaGreatDoorGf
import Derived.Test.YtcfmanhblonjeaaGreatDoorGg
import Derived.Test.YtcfmanhblonjeaaGreatDoorGh
import Derived.Test.YtcfmanhblonjeaaGreatDoorGj
import Derived.Test.YtcfmanhblonjeaaGreatDoorGl
import Derived.Test.YtcfmanhblonjeaaGreatDoorQ16
import Derived.Test.YtcfmanhblonjeaaGreatDoorQ17
import Derived.Test.YtcfmanhblonjeaaGreatDoorQ18
import Derived.Test.YtcfmanhblonjeaaGreatDoorQ19
import Derived.Test.YtcfmanhblonjeaaGreatDoorTab
import Derived.Test.YtcfmanhblonjeaaGreatDoorGd
import Derived.Test.YtcfmanhblonjeaaGreatDoorGi
import Derived.Test.YtcfmanhblonjeaaGreatDoorVs33
import Derived.Test.YtcfmanhblonjeaaGreatDoorVs34
set_option linter.all false
namespace Go.Stp
open Go.VS Go.Proofs.YtcfmanhblonjeaaGreatDoor
def DC (P : Program) (f : FuncId) (rest : List V) (l : List Int) (Q : V → Prop) : Prop :=
  ∀ a, a ≤ l.length → EG P f (.ref 0 0 :: rest) [dk l a] fun r rows' => ∃ a', a' ≤ l.length ∧ Q r ∧ rows' = [dk l a']
theorem acall_dc {P : Program} {f : FuncId} {rest : List V} {l : List Int} {Q : V → Prop} {rows : List Row} {k : KV} {i a : Nat} (hc : DC P f rest l Q) (hrow : rows[i]? = some (.live (dk l a))) (ha : a ≤ l.length) (h : ∀ x ∈ rest, x.Pure)
    (hk : ∀ r a', a' ≤ l.length → Q r → r.Pure → k r (rows.set i (.live (dk l a')))) : acall P false (.fn (.func f) []) (.ref i 0 :: rest) rows k := by
  refine acall_eg [i] (hc a ha) (by simp) (by simp [rowsOver, hrow, rowRen_live, rens_pures]) (by rw [List.append_nil]; exact ⟨by simp, rens_self h⟩) rfl fun r rows' ⟨a', h1, h2, h3⟩ hp hl hps => ?_
  subst h3
  exact hk r a' h1 h2 hp
theorem dc_mut {P : Program} {f : FuncId} {rest : List V} {l : List Int} {Q : V → Prop} (h : ∀ a, a ≤ l.length → ∃ a' r, a' ≤ l.length ∧ Q r ∧ r.Pure ∧ MCall P f (.ref 0 0 :: rest) (dk l a) (dk l a') r) : DC P f rest l Q := fun a ha => by
  obtain ⟨a', r, h1, h2, h3, h4⟩ := h a ha
  exact (eg_mut h4 h3 (dk_pures _ _)).mono fun r1 rows' ⟨e1, e2⟩ => ⟨a', h1, by rw [e1]; exact h2, e2⟩
def IntQ (n : Nat) (r : V) : Prop := ∃ x : Int, 0 ≤ x ∧ x < n ∧ r = .int .i64 x
def polL : List (List UInt8) := [[49, 46, 50, 46, 51, 46, 49], [49, 46, 50, 46, 51, 46, 50], [49, 46, 50, 46, 51, 46, 51], [49, 46, 50, 46, 51, 46, 52], [49, 46, 50, 46, 51, 46, 53], [50, 46, 57, 57, 57, 46, 49], [50, 46, 57, 57, 57, 46, 50], [49, 46, 50, 46, 51], [50, 46, 53, 46, 50, 57, 46, 51, 50, 46, 48]]
def polS (k : Int) : List UInt8 := polL.getD k.toNat []
def strsQ (n : Nat) (r : V) : Prop := ∃ ps : List (List UInt8), ps.length ≤ n ∧ (∀ p ∈ ps, p.length ≤ 20) ∧ r = strV ps
theorem polL_len : ∀ p ∈ polL, p.length ≤ 20 := by decide
theorem polS_len (k : Int) : (polS k).length ≤ 20 := by
  unfold polS
  rw [List.getD_eq_getElem?_getD]
  cases h : polL[k.toNat]? with
  | none => simp
  | some x =>
    have := List.mem_of_getElem? h
    simp only [Option.getD_some]
    exact polL_len x this
theorem pol_pures (ps : List (List UInt8)) (k : Int) : Pures (ps.map V.str ++ [V.str (polS k)]) := by simp
def mapsQ (n : Nat) (r : V) : Prop := ∃ ms : List Mp, ms.length ≤ n ∧ r = mpsV ms
end Go.Stp
namespace Go.Proofs.YtcfmanhblonjeaaGreatDoor
open Go.VS Go.Stp
set_option linter.all false
set_option maxRecDepth 100000
set_option maxHeartbeats 8000000
structure DkOk (l : List Int) : Prop where
  len : l.length ≤ 140737488355328
  rng : ∀ k ∈ l, -9223372036854775808 ≤ k ∧ k ≤ 9223372036854775807
theorem next_dc {l : List Int} (h : DkOk l) (n : Nat) (hn : 0 < n) (hn2 : n ≤ 1000) : DC Tryz.prog 7 [.int .i64 n] l (IntQ n) := dc_mut fun a ha => by
  have b := dkX_bounds (l := l) (a := a) hn
  exact ⟨dkA l a, .int .i64 (dkX l a n), dkA_le ha, ⟨_, b.1, b.2, rfl⟩, .int, next_call l a n h.len ha hn (by omega) h.rng⟩
theorem gen_dc {l : List Int} (h : DkOk l) : DC Tryz.prog 29 [] l (fun r => ∃ g : Gn, WE g ∧ r = .agg g.c) := dc_mut fun a ha =>
  ⟨(genS l a).2, _, genS_le ha, ⟨_, genS_wn, rfl⟩, by simp, gen_call l a h.len ha h.rng⟩
theorem sub_dc {l : List Int} (h : DkOk l) : DC Tryz.prog 19 [] l (fun r => ∃ s : Sb, WS s ∧ r = .agg s.c) := dc_mut fun a ha =>
  ⟨(subS l a).2, _, subS_le ha, ⟨_, subS_ws, rfl⟩, by simp, sub_call l a h.len ha h.rng⟩
attribute [local irreducible] arun arunD arunU AWp aend
theorem policy_call (k : Int) (h0 : 0 ≤ k) (h : k < 9) : PCall Tryz.prog 50 [.int .i64 k] (.str (polS k)) := by
  rcases (show k = 0 ∨ k = 1 ∨ k = 2 ∨ k = 3 ∨ k = 4 ∨ k = 5 ∨ k = 6 ∨ k = 7 ∨ k = 8 by omega) with rfl | rfl | rfl | rfl | rfl | rfl | rfl | rfl | rfl
  all_goals (
    refine pcall_body Tryz.func50 rfl Tryz.call50 ?_ ?_
    rotate_left 1
    refine awp_slots (s' := (.int .i64 _ : V) :: zJ 7) rfl ?_; dsimp only [zJ]
    repeat' (first | (refine Y0 rfl fun K9 h9 => ?_; simp (disch := first | exact dd | fail); (try simp (disch := first | exact de | fail) only [X7]); ((repeat (refine Yz ?_)); (first | refine h9 _ _ (Ys ?_)); clear h9 K9)) | refine Y6 ?_ | (refine Y8 fun K hK => ?_) | refine Y9 ?_ | (apply hK; clear hK K) | (refine Ye ?_; refine Yf ?_) | refine Yg ?_ | (simp only [X0, Nat.reduceBEq]) | clear hK K)
    · exact .pure .str
    · exact .str)


theorem policies_dc {l : List Int} (h : DkOk l) : DC Tryz.prog 28 [.int .i64 3] l (strsQ 3) := by
  intro a ha
  have n4 : DC Tryz.prog 7 [.int .i64 4] l (IntQ 4) := next_dc h 4 (by omega) (by omega)
  have n5 : DC Tryz.prog 7 [.int .i64 5] l (IntQ 5) := next_dc h 5 (by omega) (by omega)
  refine eg_body Tryz.func28 rfl Tryz.call28 ?_
  refine awp_slots (s' := (.ref 0 0 : V) :: (.int .i64 3 : V) :: zJ 23) rfl ?_; dsimp only [zJ]
  refine awp_rows (rows' := [.live (dk l a)]) rfl ?_
  repeat' (first | (refine Y0 rfl fun K9 h9 => ?_; simp (disch := first | exact dd | fail); (try simp (disch := first | exact de | fail) only [X7]); ((first | (refine acall_dc n4 rfl (by assumption) (by simp) (fun r a' ha' hQ hr => ?_); obtain ⟨x, hx1, hx2, rfl⟩ := hQ; clear hr) | skip) <;> ((repeat (refine Yz ?_)); (first | refine h9 _ _ (Ys ?_)); clear h9 K9))) | refine Y6 ?_ | (refine Y8 fun K hK => ?_) | refine Y9 ?_ | (apply hK; clear hK K) | refine Ya ?_ | (refine Yb rfl ?_ ?_ <;> intro hcnd <;> (try simp at hcnd) <;> try exact dc) | refine Yc ?_ | (refine Yd ?_; simp only [X0, Nat.reduceBEq]) | (refine Ye ?_; refine Yf ?_) | refine Yg ?_ | (simp only [X0, Nat.reduceBEq]) | clear hK K)
  refine awp_loopU (α := Nat × List (List UInt8) × Nat) (fun q => (none :: some V.junk :: zN 2 (some V.junk :: some (V.osl 1 0 q.2.1.length 1) :: some (V.int .i64 (x - q.1)) :: zS 18 []))) (fun q => [.live (dk l q.2.2), .live (q.2.1.map V.str)]) (fun q => (q.1 : Int) ≤ x ∧ q.2.1.length ≤ q.1 ∧ (∀ p ∈ q.2.1, p.length ≤ 20) ∧ q.2.2 ≤ l.length) (fun q => 4 - q.1) (0, [], a') ⟨by omega, by simp, by simp, ha'⟩ ?_ ?_
  · dsimp only [ups, zN, zS]
    exact Yr [some 0, none] (by simp [rowsOver, rowRen_live, rens_pures])
  rintro ⟨i, ps, b⟩ ⟨hi, hpl, hps, hb⟩ KL hL
  dsimp only at hi hpl hps hb
  dsimp only [ups, zN, zS]
  rcases (show (i : Int) < x ∨ i = x by omega) with hi | hi
  · clear n4
    have hps2 : ∀ k, ∀ p ∈ ps ++ [polS k], p.length ≤ 20 := fun k p hp => by
      simp at hp
      rcases hp with hp | rfl
      · exact hps p hp
      · exact polS_len k
    repeat' (first | (refine Y0 rfl fun K9 h9 => ?_; simp (disch := first | exact dd | fail); (try simp (disch := first | exact de | fail) only [X7]); ((first | (refine acall_dc n5 rfl (by assumption) (by simp) (fun r a' ha' hQ hr => ?_); obtain ⟨x, hx1, hx2, rfl⟩ := hQ; clear hr; rcases (show x = 0 ∨ x = 1 ∨ x = 2 ∨ x = 3 ∨ x = 4 by omega) with rfl | rfl | rfl | rfl | rfl) | refine Ap (policy_call _ (by omega) (by omega)) ?_ | skip) <;> ((repeat (refine Yz ?_)); (first | refine h9 _ _ (Ys ?_)); clear h9 K9))) | refine Y6 ?_ | (refine Y8 fun K hK => ?_) | refine Y9 ?_ | (apply hK; clear hK K) | refine Ya ?_ | (refine Yb rfl ?_ ?_ <;> intro hcnd <;> (try simp at hcnd) <;> try exact dc) | refine Yc ?_ | (refine Yd ?_; simp only [X0, Nat.reduceBEq]) | (refine Ye ?_; refine Yf ?_) | refine Yg ?_ | (simp only [X0, Nat.reduceBEq]) | clear hK K)
    all_goals clear hx1 hx2
    · refine hL (i + 1, ps ++ [polS 0], _) _ _ ⟨by dsimp only; omega, by simp; omega, hps2 0, by assumption⟩ (by dsimp only; omega) ?_
      exact Yr [some 0, some 4] (by simp [rowsOver, rowRen_live, rens_pures, rens_pures (pol_pures ps 0), List.take_of_length_le])
    · refine hL (i + 1, ps ++ [polS 1], _) _ _ ⟨by dsimp only; omega, by simp; omega, hps2 1, by assumption⟩ (by dsimp only; omega) ?_
      exact Yr [some 0, some 4] (by simp [rowsOver, rowRen_live, rens_pures, rens_pures (pol_pures ps 1), List.take_of_length_le])
    · refine hL (i + 1, ps ++ [polS 2], _) _ _ ⟨by dsimp only; omega, by simp; omega, hps2 2, by assumption⟩ (by dsimp only; omega) ?_
      exact Yr [some 0, some 4] (by simp [rowsOver, rowRen_live, rens_pures, rens_pures (pol_pures ps 2), List.take_of_length_le])
    · refine hL (i + 1, ps ++ [polS 3], _) _ _ ⟨by dsimp only; omega, by simp; omega, hps2 3, by assumption⟩ (by dsimp only; omega) ?_
      exact Yr [some 0, some 4] (by simp [rowsOver, rowRen_live, rens_pures, rens_pures (pol_pures ps 3), List.take_of_length_le])
    · refine hL (i + 1, ps ++ [polS 8], _) _ _ ⟨by dsimp only; omega, by simp; omega, hps2 8, by assumption⟩ (by dsimp only; omega) ?_
      exact Yr [some 0, some 4] (by simp [rowsOver, rowRen_live, rens_pures, rens_pures (pol_pures ps 8), List.take_of_length_le])
  · refine awp_freeze' 1 rfl (by simp) (by simp [fz]; rfl) (by simp [fzRow, fz, fz_map (dk_pures _ _)]; rfl) ?_
    repeat' (first | (refine Y0 rfl fun K9 h9 => ?_; simp (disch := first | exact dd | fail); (try simp (disch := first | exact de | fail) only [X7]); ((repeat (refine Yz ?_)); (first | refine h9 _ _ (Ys ?_)); clear h9 K9)) | refine Y6 ?_ | (refine Y8 fun K hK => ?_) | refine Y9 ?_ | (apply hK; clear hK K) | refine Ya ?_ | (refine Yb rfl ?_ ?_ <;> intro hcnd <;> (try simp at hcnd) <;> try exact dc) | refine Yc ?_ | (refine Yd ?_; simp only [X0, Nat.reduceBEq]) | (refine Ye ?_; refine Yf ?_) | refine Yg ?_ | (simp only [X0, Nat.reduceBEq]) | clear hK K)
    refine ⟨strV ps, [dk l b], ⟨b, hb, ⟨ps, by omega, hps, rfl⟩, rfl⟩, by simp, rfl, by simp, ?_⟩
    have e : List.take ps.length (ps.map V.str) = ps.map V.str := List.take_of_length_le (by simp)
    exact Le.mk [some 0] (by simp [strV, sget, e]) (rowsRen_of (by simp) (by simp [rowsOver, rowRen_live, rens_pures])) (by simp)
end Go.Proofs.YtcfmanhblonjeaaGreatDoor

