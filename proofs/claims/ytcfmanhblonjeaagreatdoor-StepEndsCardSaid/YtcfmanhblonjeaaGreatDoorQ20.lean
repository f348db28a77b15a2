/-
  STEP: states from a deck.
  Conditions: none.
-/
import Derived.Test.YtcfmanhblonjeaaGreatDoorGe
import Derived.Test.YtcfmanhblonjeaaGreatDoorGf
import Derived.Test.YtcfmanhblonjeaaGreatDoorGg
import Derived.Test.YtcfmanhblonjeaaGreatDoorGh
import Derived.Test.YtcfmanhblonjeaaGreatDoorGj
import Derived.Test.YtcfmanhblonjeaaGreatDoorGl
import Derived.Test.YtcfmanhblonjeaaGreatDoorGk
import Derived.Test.YtcfmanhblonjeaaGreatDoorQ16
import Derived.Test.YtcfmanhblonjeaaGreatDoorQ17
import Derived.Test.YtcfmanhblonjeaaGreatDoorQ18
import Derived.Test.YtcfmanhblonjeaaGreatDoorQ19
import Derived.Test.YtcfmanhblonjeaaGreatDoorTab
import Derived.Test.YtcfmanhblonjeaaGreatDoorGd
import Derived.Test.YtcfmanhblonjeaaGreatDoorGi
import Derived.Test.YtcfmanhblonjeaaGreatDoorVs33
namespace Go.Proofs.YtcfmanhblonjeaaGreatDoor
open Go.VS Go.Stp
set_option linter.all false
set_option maxRecDepth 100000
set_option maxHeartbeats 8000000
structure WPg (s : Pg) : Prop where
  iss : WN s.issuer
  names : WSs s.names
  few : s.names.length ≤ 2
  len : 0 ≤ s.len ∧ s.len ≤ 3
  expl : 0 ≤ s.expl ∧ s.expl ≤ 3
  map : 0 ≤ s.map ∧ s.map ≤ 3
  any : 0 ≤ s.any ∧ s.any ≤ 3
theorem anc_wn (k : Nat) : WN (anc k).n := authN_wn _
attribute [local irreducible] arun arunD AWp aend
theorem progress_call (l : List Int) (a : Nat) (hl : l.length ≤ 140737488355328) (ha : a ≤ l.length) (hr : ∀ k ∈ l, -9223372036854775808 ≤ k ∧ k ≤ 9223372036854775807) :
    ∃ s a', WPg s ∧ a' ≤ l.length ∧ MCall Tryz.prog 5 [.ref 0 0] (dk l a) (dk l a') (.agg s.c) := by
  have n1 : MCall Tryz.prog 7 [.ref 0 0, .int .i64 5] (dk l (a)) (dk l (dkA l (a))) (.int .i64 (dkX l (a) 5)) := next_call l (a) 5 hl ha (by omega) (by omega) hr
  have b1 := dkX_bounds (l := l) (a := a) (n := 5) (by omega)
  have ha1 := dkA_le ha
  obtain ⟨k, hk, han⟩ : ∃ k : Nat, (dkX l a 5 = 0 ∧ k = 0 ∨ dkX l a 5 = 1 ∧ k = 0 ∨ dkX l a 5 = 2 ∧ k = 0 ∨ dkX l a 5 = 3 ∧ k = 1 ∨ dkX l a 5 = 4 ∧ k = 2) ∧ PCall Tryz.prog 18 [.int .i64 k] (.agg (anc k).c) := by
    have a0 := anchor_call 0 (by omega)
    have a1 := anchor_call 1 (by omega)
    have a2 := anchor_call 2 (by omega)
    rcases (show dkX l a 5 = 0 ∨ dkX l a 5 = 1 ∨ dkX l a 5 = 2 ∨ dkX l a 5 = 3 ∨ dkX l a 5 = 4 by omega) with h | h | h | h | h
    · exact ⟨0, by simp [h], a0⟩
    · exact ⟨0, by simp [h], a0⟩
    · exact ⟨0, by simp [h], a0⟩
    · exact ⟨1, by simp [h], a1⟩
    · exact ⟨2, by simp [h], a2⟩
  have hWn := anc_wn k
  generalize dkX l a 5 = x at *
  generalize dkA l a = a1 at *
  have n2 : MCall Tryz.prog 7 [.ref 0 0, .int .i64 3] (dk l a1) (dk l (dkA l a1)) (.int .i64 (dkX l a1 3)) := next_call l a1 3 hl ha1 (by omega) (by omega) hr
  have b2 := dkX_bounds (l := l) (a := a1) (n := 3) (by omega)
  have ha2 := dkA_le ha1
  generalize dkX l a1 3 = x2 at *
  generalize dkA l a1 = a2 at *
  have n3 : MCall Tryz.prog 7 [.ref 0 0, .int .i64 4] (dk l a2) (dk l (dkA l a2)) (.int .i64 (dkX l a2 4)) := next_call l a2 4 hl ha2 (by omega) (by omega) hr
  have b3 := dkX_bounds (l := l) (a := a2) (n := 4) (by omega)
  have ha3 := dkA_le ha2
  generalize dkX l a2 4 = x3 at *
  generalize dkA l a2 = a3 at *
  have n4 : MCall Tryz.prog 7 [.ref 0 0, .int .i64 4] (dk l a3) (dk l (dkA l a3)) (.int .i64 (dkX l a3 4)) := next_call l a3 4 hl ha3 (by omega) (by omega) hr
  have b4 := dkX_bounds (l := l) (a := a3) (n := 4) (by omega)
  have ha4 := dkA_le ha3
  generalize dkX l a3 4 = x4 at *
  generalize dkA l a3 = a4 at *
  have n5 : MCall Tryz.prog 7 [.ref 0 0, .int .i64 4] (dk l a4) (dk l (dkA l a4)) (.int .i64 (dkX l a4 4)) := next_call l a4 4 hl ha4 (by omega) (by omega) hr
  have b5 := dkX_bounds (l := l) (a := a4) (n := 4) (by omega)
  have ha5 := dkA_le ha4
  generalize dkX l a4 4 = x5 at *
  generalize dkA l a4 = a5 at *
  have n6 : MCall Tryz.prog 7 [.ref 0 0, .int .i64 4] (dk l a5) (dk l (dkA l a5)) (.int .i64 (dkX l a5 4)) := next_call l a5 4 hl ha5 (by omega) (by omega) hr
  have b6 := dkX_bounds (l := l) (a := a5) (n := 4) (by omega)
  have ha6 := dkA_le ha5
  generalize dkX l a5 4 = x6 at *
  generalize dkA l a5 = a6 at *
  have n7 : MCall Tryz.prog 7 [.ref 0 0, .int .i64 3] (dk l a6) (dk l (dkA l a6)) (.int .i64 (dkX l a6 3)) := next_call l a6 3 hl ha6 (by omega) (by omega) hr
  have b7 := dkX_bounds (l := l) (a := a6) (n := 3) (by omega)
  have ha7 := dkA_le ha6
  generalize dkX l a6 3 = x7 at *
  generalize dkA l a6 = a7 at *
  have s1 := sub_call l a7 hl ha7 hr
  have w1 := subS_ws (l := l) (a := a7)
  have ha8 := subS_le ha7
  generalize subS l a7 = p1 at *
  obtain ⟨S1, a8⟩ := p1
  dsimp only at *
  have s2 := sub_call l a8 hl ha8 hr
  have w2 := subS_ws (l := l) (a := a8)
  have ha9 := subS_le ha8
  generalize subS l a8 = p2 at *
  obtain ⟨S2, a9⟩ := p2
  dsimp only at *
  have n8 : MCall Tryz.prog 7 [.ref 0 0, .int .i64 2] (dk l a9) (dk l (dkA l a9)) (.int .i64 (dkX l a9 2)) := next_call l a9 2 hl ha9 (by omega) (by omega) hr
  have b8 := dkX_bounds (l := l) (a := a9) (n := 2) (by omega)
  have ha10 := dkA_le ha9
  generalize dkX l a9 2 = x8 at *
  generalize dkA l a9 = a10 at *
  generalize anc k = AN at *
  refine ⟨⟨AN.n, AN.k, decide (0 < x2), x3, x4, x5, x6, if x7 = 1 then (if x8 = 0 then [S1] else [S1, S2]) else []⟩, if x7 = 1 then a10 else a7, ⟨hWn, ?_, ?_, by dsimp only; omega, by dsimp only; omega, by dsimp only; omega, by dsimp only; omega⟩, ?_, ?_⟩
  · dsimp only
    split
    · split
      · exact ⟨by simp, by simp [w1]⟩
      · exact ⟨by simp, by simp [w1, w2]⟩
    · exact ⟨by simp, by simp⟩
  · dsimp only
    split
    · split <;> simp
    · simp
  · split <;> assumption
  rw [Pg.c.eq_1]
  dsimp only
  rw [An.c.eq_1] at han
  clear hr hl w1 w2 hWn
  refine mcall_body Tryz.func5 rfl Tryz.call5 ?_ ?_ ?_
  rotate_left 2
  refine awp_slots (s' := (.ref 0 0 : V) :: zJ 41) rfl ?_; dsimp only [zJ]
  · iterate 5 (first | ((first | refine Y0 rfl fun K9 h9 => ?_ | refine Y1 rfl rfl fun K9 h9 => ?_ | refine Y2 rfl rfl fun K9 h9 => ?_); simp (disch := first | exact dd | fail); (try simp (disch := first | exact de | fail) only [X7]); ((repeat (refine Yz ?_)); (first | refine h9 _ _ (Ys ?_) | refine h9 _ _ (Yt ?_)); clear h9 K9)) | refine Y6 ?_ | refine Y7 ?_ | (refine Y8 fun K hK => ?_) | refine Y9 ?_ | (apply hK; clear hK K) | ((first | refine Yk (m := 1) (by decide +kernel) [] (by kernel_rfl) (by decide +kernel) ?_); simp only [List.replicate, XL]) | (refine Yb rfl ?_ ?_ <;> intro hcnd <;> (try simp at hcnd) <;> try exact dc) | refine Yc ?_ | (refine Ye ?_; refine Yf ?_) | refine Yg ?_ | (simp only [X0, Nat.reduceBEq]) | (clear hK K; first | (apply hK; clear hK K) | (clear hK K; first | (apply hK; clear hK K) | (clear hK K; first | (apply hK; clear hK K) | (clear hK K; apply hK; clear hK K)))))
    refine awp_seq' fun K hK hL => ?_
    have main : K ([.ref 0 0, .junk, .ref 1 0, .ref 2 0, .junk, .junk, .junk, .junk, .junk, .junk, .junk, .junk, .junk, .junk, .junk, .junk, .junk, .junk, .junk, .junk, .junk, .junk, .junk, .junk, .junk, .junk, .junk, .junk, .junk, .junk, .junk, .junk, .junk, .junk, .junk, .junk, .junk, .junk, .junk, .junk, .junk, .junk]) [.live (dk l a1), .live [.nils, .int .i64 0, .str [], .str [], .bool false, .int .i64 0, .int .i64 0, .int .i64 0, .int .i64 0, .nils], .live [nmV AN.n, .int .i64 AN.k.h, .str AN.k.id, .str AN.k.root]] := by
      refine hK _ _ ?_
      clear hK hL K n1 han hk
      iterate 23 (first | ((first | refine Y0 rfl fun K9 h9 => ?_ | refine Y1 rfl rfl fun K9 h9 => ?_ | refine Y2 rfl rfl fun K9 h9 => ?_); simp (disch := first | exact dd | fail); (try simp (disch := first | exact de | fail) only [X7]); ((first | refine acallF_mutd n2 rfl (dk_pures _ _) (dk_pures _ _) .int (by simp) ?_ | refine acallF_mutd n3 rfl (dk_pures _ _) (dk_pures _ _) .int (by simp) ?_ | refine acallF_mutd n4 rfl (dk_pures _ _) (dk_pures _ _) .int (by simp) ?_ | refine acallF_mutd n5 rfl (dk_pures _ _) (dk_pures _ _) .int (by simp) ?_ | refine acallF_mutd n6 rfl (dk_pures _ _) (dk_pures _ _) .int (by simp) ?_ | (refine aeffS_loadA (vs := [nmV AN.n]) rfl ?_ ?_ ?_ ?_ ?_; (focus (simp; done)); (focus (simp; done)); (focus (simp; done)); (focus (intro i v h; rcases i with _ | i <;> simp at h <;> subst h <;> simp))) | (refine aeffS_loadA (vs := [.int .i64 AN.k.h, .str AN.k.id, .str AN.k.root]) rfl ?_ ?_ ?_ ?_ ?_; (focus (simp; done)); (focus (simp; done)); (focus (simp; done)); (focus (intro i v h; rcases i with _ | _ | _ | i <;> simp at h <;> subst h <;> simp))) | skip) <;> ((repeat (refine Yz ?_)); (first | refine h9 _ _ (Ys ?_) | refine h9 _ _ (Yt ?_)); clear h9 K9))) | refine Y6 ?_ | refine Y7 ?_ | (refine Y8 fun K hK => ?_) | refine Y9 ?_ | (apply hK; clear hK K) | ((first | refine awp_region_drawL (m := 1) [(2, 0, nmV AN.n), (2, 1, .int .i64 AN.k.h), (2, 2, .str AN.k.id), (2, 3, .str AN.k.root)] (by simp) (by decide +kernel) [0, 3, 0, 3, 0, 2, 0, 0, 2, 0, 2, 0, 2, 0, 2, 0, 0, 0] 17 (by kernel_rfl) (by kernel_rfl) (by decide +kernel) (by decide +kernel) ?_ | refine Yk (m := 1) (by decide +kernel) [0, 3, 0, 3, 0, 2, 0, 0, 2, 0, 2, 0, 2, 0, 2, 0, 0, 0] (by kernel_rfl) (by decide +kernel) ?_ | refine Yk (m := 1) (by decide +kernel) [] (by kernel_rfl) (by decide +kernel) ?_); simp only [List.replicate, XL]) | (refine Yb rfl ?_ ?_ <;> intro hcnd <;> (try simp at hcnd) <;> try exact dc) | refine Yc ?_ | (refine Ye ?_; refine Yf ?_) | refine Yg ?_ | (simp only [X0, Nat.reduceBEq]) | (clear hK K; first | (apply hK; clear hK K) | (clear hK K; first | (apply hK; clear hK K) | (clear hK K; first | (apply hK; clear hK K) | (clear hK K; apply hK; clear hK K)))))
      refine awp_nz ?_
      refine awp_rows (rows' := [.live (dk l a6), .live [.sl 0 [], .int .i64 0, .str [], .str [], .bool false, .int .i64 0, .int .i64 0, .int .i64 0, .int .i64 0, .sl 0 []], .live [nmV AN.n, .int .i64 AN.k.h, .str AN.k.id, .str AN.k.root], .live [nmV AN.n, .int .i64 AN.k.h, .str AN.k.id, .str AN.k.root, .bool (decide (0 < x2)), .int .i64 x3, .int .i64 x4, .int .i64 x5, .int .i64 x6, .sl 0 []]]) rfl ?_
      refine awp_seq' fun K hK hL => ?_
      rw [Sb.c.eq_1] at s1 s2
      by_cases h7 : x7 = 1
      · rw [if_pos h7, if_pos h7] at hK
        by_cases h8 : x8 = 0
        · rw [if_pos h8] at hK
          have main : K ([.ref 0 0, .junk, .ref 1 0, .ref 2 0, .ref 3 0, .junk, .junk, .junk, .junk, .junk, .junk, .junk, .junk, .junk, .junk, .junk, .junk, .junk, .junk, .junk, .junk, .junk, .junk, .junk, .junk, .junk, .junk, .junk, .junk, .junk, .junk, .junk, .junk, .junk, .junk, .junk, .junk, .junk, .junk, .junk, .junk, .junk]) [.live (dk l a10), .live [.sl 0 [], .int .i64 0, .str [], .str [], .bool false, .int .i64 0, .int .i64 0, .int .i64 0, .int .i64 0, .sl 0 []], .live [nmV AN.n, .int .i64 AN.k.h, .str AN.k.id, .str AN.k.root], .live [nmV AN.n, .int .i64 AN.k.h, .str AN.k.id, .str AN.k.root, .bool (decide (0 < x2)), .int .i64 x3, .int .i64 x4, .int .i64 x5, .int .i64 x6, .osl 4 0 1 2], .live [gnsV S1.p, gnsV S1.x, gnsV S2.p, gnsV S2.x]] := by
            refine hK _ _ ?_
            clear hK hL
            clear K
            have hr : sbsV [S1] = .sl 1 [gnsV S1.p, gnsV S1.x] := by simp [sbsV, Sb.c]
            rw [hr]
            refine awp_freeze' 4 rfl (by simp) (by simp [fz]; rfl) (by simp [fzRow, fz, nmV, gnsV, fz_map (dk_pures _ _)]; rfl) ?_
            repeat' (first | ((first | refine Y0 rfl fun K9 h9 => ?_ | refine Y1 rfl rfl fun K9 h9 => ?_ | refine Y2 rfl rfl fun K9 h9 => ?_); simp (disch := first | exact dd | fail); (try simp (disch := first | exact de | fail) only [X7]); ((repeat (refine Yz ?_)); (first | refine h9 _ _ (Ys ?_) | refine h9 _ _ (Yt ?_)); clear h9 K9)) | refine Y6 ?_ | refine Y7 ?_ | (refine Y8 fun K hK => ?_) | refine Y9 ?_ | (apply hK; clear hK K) | ((first | refine Yk (m := 1) (by decide +kernel) [] (by kernel_rfl) (by decide +kernel) ?_); simp only [List.replicate, XL]) | (refine Yb rfl ?_ ?_ <;> intro hcnd <;> (try simp at hcnd) <;> try exact dc) | refine Yc ?_ | (refine Ye ?_; refine Yf ?_) | refine Yg ?_ | (simp only [X0, Nat.reduceBEq]) | clear hK K)
            simp [nmV, gnsV]
            exact mend_plain
          clear hK
          repeat' (first | ((first | refine Y0 rfl fun K9 h9 => ?_ | refine Y1 rfl rfl fun K9 h9 => ?_ | refine Y2 rfl rfl fun K9 h9 => ?_); simp (disch := first | exact dd | fail) [h7, h8]; (try simp (disch := first | exact de | fail) only [X7]); ((first | refine acall_mutd n7 rfl (dk_pures _ _) (dk_pures _ _) .int (by simp) ?_ | refine acall_mutd s1 rfl (dk_pures _ _) (dk_pures _ _) (by simp) (by simp) ?_ | refine acall_mutd s2 rfl (dk_pures _ _) (dk_pures _ _) (by simp) (by simp) ?_ | refine acall_mutd n8 rfl (dk_pures _ _) (dk_pures _ _) .int (by simp) ?_ | skip) <;> ((repeat (refine Yz ?_)); (first | refine h9 _ _ (Ys ?_) | refine h9 _ _ (Yt ?_)); clear h9 K9))) | refine Y6 ?_ | refine Y7 ?_ | (refine Y8 fun K hK => ?_) | refine Y9 ?_ | (apply hK; clear hK K) | ((first | refine Yk (m := 1) (by decide +kernel) [] (by kernel_rfl) (by decide +kernel) ?_); simp only [List.replicate, XL]) | (refine Yb rfl ?_ ?_ <;> intro hcnd <;> (try simp at hcnd) <;> try exact dc) | refine Yc ?_ | (refine Ye ?_; refine Yf ?_) | refine Yg ?_ | (simp only [X0, Nat.reduceBEq]) | clear hK K)
          refine hL _ _ _ _ ?_ main
          exact Yr [some 0, some 1, some 2, some 3, some 4] (by simp [rowsOver, rowRen_live, rens_pures])
        · obtain rfl : x8 = 1 := by omega
          rw [if_neg h8] at hK
          have main : K ([.ref 0 0, .junk, .ref 1 0, .ref 2 0, .ref 3 0, .junk, .junk, .junk, .junk, .junk, .junk, .junk, .junk, .junk, .junk, .junk, .junk, .junk, .junk, .junk, .junk, .junk, .junk, .junk, .junk, .junk, .junk, .junk, .junk, .junk, .junk, .junk, .junk, .junk, .junk, .junk, .junk, .junk, .junk, .junk, .junk, .junk]) [.live (dk l a10), .live [.sl 0 [], .int .i64 0, .str [], .str [], .bool false, .int .i64 0, .int .i64 0, .int .i64 0, .int .i64 0, .sl 0 []], .live [nmV AN.n, .int .i64 AN.k.h, .str AN.k.id, .str AN.k.root], .live [nmV AN.n, .int .i64 AN.k.h, .str AN.k.id, .str AN.k.root, .bool (decide (0 < x2)), .int .i64 x3, .int .i64 x4, .int .i64 x5, .int .i64 x6, .osl 4 0 2 2], .live [gnsV S1.p, gnsV S1.x, gnsV S2.p, gnsV S2.x]] := by
            refine hK _ _ ?_
            clear hK hL
            clear K
            have hr : sbsV [S1, S2] = .sl 2 [gnsV S1.p, gnsV S1.x, gnsV S2.p, gnsV S2.x] := by simp [sbsV, Sb.c]
            rw [hr]
            refine awp_freeze' 4 rfl (by simp) (by simp [fz]; rfl) (by simp [fzRow, fz, nmV, gnsV, fz_map (dk_pures _ _)]; rfl) ?_
            repeat' (first | ((first | refine Y0 rfl fun K9 h9 => ?_ | refine Y1 rfl rfl fun K9 h9 => ?_ | refine Y2 rfl rfl fun K9 h9 => ?_); simp (disch := first | exact dd | fail); (try simp (disch := first | exact de | fail) only [X7]); ((repeat (refine Yz ?_)); (first | refine h9 _ _ (Ys ?_) | refine h9 _ _ (Yt ?_)); clear h9 K9)) | refine Y6 ?_ | refine Y7 ?_ | (refine Y8 fun K hK => ?_) | refine Y9 ?_ | (apply hK; clear hK K) | ((first | refine Yk (m := 1) (by decide +kernel) [] (by kernel_rfl) (by decide +kernel) ?_); simp only [List.replicate, XL]) | (refine Yb rfl ?_ ?_ <;> intro hcnd <;> (try simp at hcnd) <;> try exact dc) | refine Yc ?_ | (refine Ye ?_; refine Yf ?_) | refine Yg ?_ | (simp only [X0, Nat.reduceBEq]) | clear hK K)
            simp [nmV, gnsV]
            exact mend_plain
          clear hK
          repeat' (first | ((first | refine Y0 rfl fun K9 h9 => ?_ | refine Y1 rfl rfl fun K9 h9 => ?_ | refine Y2 rfl rfl fun K9 h9 => ?_); simp (disch := first | exact dd | fail) [h7]; (try simp (disch := first | exact de | fail) only [X7]); ((first | refine acall_mutd n7 rfl (dk_pures _ _) (dk_pures _ _) .int (by simp) ?_ | refine acall_mutd s1 rfl (dk_pures _ _) (dk_pures _ _) (by simp) (by simp) ?_ | refine acall_mutd s2 rfl (dk_pures _ _) (dk_pures _ _) (by simp) (by simp) ?_ | refine acall_mutd n8 rfl (dk_pures _ _) (dk_pures _ _) .int (by simp) ?_ | skip) <;> ((repeat (refine Yz ?_)); (first | refine h9 _ _ (Ys ?_) | refine h9 _ _ (Yt ?_)); clear h9 K9))) | refine Y6 ?_ | refine Y7 ?_ | (refine Y8 fun K hK => ?_) | refine Y9 ?_ | (apply hK; clear hK K) | ((first | refine Yk (m := 1) (by decide +kernel) [] (by kernel_rfl) (by decide +kernel) ?_); simp only [List.replicate, XL]) | (refine Yb rfl ?_ ?_ <;> intro hcnd <;> (try simp at hcnd) <;> try exact dc) | refine Yc ?_ | (refine Ye ?_; refine Yf ?_) | refine Yg ?_ | (simp only [X0, Nat.reduceBEq]) | clear hK K)
          refine hL _ _ _ _ ?_ main
          exact Yr [some 0, some 1, some 2, some 3, some 4] (by simp [rowsOver, rowRen_live, rens_pures])
      · rw [if_neg h7, if_neg h7] at hK
        have main : K ([.ref 0 0, .junk, .ref 1 0, .ref 2 0, .ref 3 0, .junk, .junk, .junk, .junk, .junk, .junk, .junk, .junk, .junk, .junk, .junk, .junk, .junk, .junk, .junk, .junk, .junk, .junk, .junk, .junk, .junk, .junk, .junk, .junk, .junk, .junk, .junk, .junk, .junk, .junk, .junk, .junk, .junk, .junk, .junk, .junk, .junk]) [.live (dk l a7), .live [.sl 0 [], .int .i64 0, .str [], .str [], .bool false, .int .i64 0, .int .i64 0, .int .i64 0, .int .i64 0, .sl 0 []], .live [nmV AN.n, .int .i64 AN.k.h, .str AN.k.id, .str AN.k.root], .live [nmV AN.n, .int .i64 AN.k.h, .str AN.k.id, .str AN.k.root, .bool (decide (0 < x2)), .int .i64 x3, .int .i64 x4, .int .i64 x5, .int .i64 x6, sbsV []]] := by
          refine hK _ _ ?_
          clear hK hL
          clear K
          repeat' (first | ((first | refine Y0 rfl fun K9 h9 => ?_ | refine Y1 rfl rfl fun K9 h9 => ?_ | refine Y2 rfl rfl fun K9 h9 => ?_); simp (disch := first | exact dd | fail); (try simp (disch := first | exact de | fail) only [X7]); ((repeat (refine Yz ?_)); (first | refine h9 _ _ (Ys ?_) | refine h9 _ _ (Yt ?_)); clear h9 K9)) | refine Y6 ?_ | refine Y7 ?_ | (refine Y8 fun K hK => ?_) | refine Y9 ?_ | (apply hK; clear hK K) | ((first | refine Yk (m := 1) (by decide +kernel) [] (by kernel_rfl) (by decide +kernel) ?_); simp only [List.replicate, XL]) | (refine Yb rfl ?_ ?_ <;> intro hcnd <;> (try simp at hcnd) <;> try exact dc) | refine Yc ?_ | (refine Ye ?_; refine Yf ?_) | refine Yg ?_ | (simp only [X0, Nat.reduceBEq]) | clear hK K)
          simp
          exact mend_plain
        clear hK
        repeat' (first | ((first | refine Y0 rfl fun K9 h9 => ?_ | refine Y1 rfl rfl fun K9 h9 => ?_ | refine Y2 rfl rfl fun K9 h9 => ?_); simp (disch := first | exact dd | fail) [h7]; (try simp (disch := first | exact de | fail) only [X7]); ((first | refine acall_mutd n7 rfl (dk_pures _ _) (dk_pures _ _) .int (by simp) ?_ | skip) <;> ((repeat (refine Yz ?_)); (first | refine h9 _ _ (Ys ?_) | refine h9 _ _ (Yt ?_)); clear h9 K9))) | refine Y6 ?_ | refine Y7 ?_ | (refine Y8 fun K hK => ?_) | refine Y9 ?_ | (apply hK; clear hK K) | ((first | refine Yk (m := 1) (by decide +kernel) [] (by kernel_rfl) (by decide +kernel) ?_); simp only [List.replicate, XL]) | (refine Yb rfl ?_ ?_ <;> intro hcnd <;> (try simp at hcnd) <;> try exact dc) | refine Yc ?_ | (refine Ye ?_; refine Yf ?_) | refine Yg ?_ | (simp only [X0, Nat.reduceBEq]) | clear hK K)
        refine hL _ _ _ _ ?_ main
        exact Yr [some 0, some 1, some 2, some 3] (by simp [rowsOver, rowRen_live, rens_pures, sbsV])
    clear hK
    rcases hk with ⟨rfl, rfl⟩ | ⟨rfl, rfl⟩ | ⟨rfl, rfl⟩ | ⟨rfl, rfl⟩ | ⟨rfl, rfl⟩
    all_goals (
      repeat' (first | ((first | refine Y0 rfl fun K9 h9 => ?_ | refine Y1 rfl rfl fun K9 h9 => ?_ | refine Y2 rfl rfl fun K9 h9 => ?_); simp (disch := first | exact dd | fail); (try simp (disch := first | exact de | fail) only [X7]); ((first | refine acall_mutd n1 rfl (dk_pures _ _) (dk_pures _ _) .int (by simp) ?_ | refine Ap han ?_ | skip) <;> ((repeat (refine Yz ?_)); (first | refine h9 _ _ (Ys ?_) | refine h9 _ _ (Yt ?_)); clear h9 K9))) | refine Y6 ?_ | refine Y7 ?_ | (refine Y8 fun K hK => ?_) | refine Y9 ?_ | (apply hK; clear hK K) | ((first | refine Yk (m := 1) (by decide +kernel) [] (by kernel_rfl) (by decide +kernel) ?_); simp only [List.replicate, XL]) | (refine Yb rfl ?_ ?_ <;> intro hcnd <;> (try simp at hcnd) <;> try exact dc) | refine Yc ?_ | (refine Ye ?_; refine Yf ?_) | refine Yg ?_ | (simp only [X0, Nat.reduceBEq]) | clear hK K)
      refine hL _ _ _ _ ?_ main
      exact Yr [some 0, some 1, some 3] (by simp [rowsOver, rowRen_live, rens_pures]))
  · simp
  · exact dk_pures _ _
end Go.Proofs.YtcfmanhblonjeaaGreatDoor

