/-
  STEP: subtrees from a deck.
  Conditions: none.
-/
import Derived.Test.YtcfmanhblonjeaaGreatDoorGe
import Derived.Test.YtcfmanhblonjeaaGreatDoorGf
import Derived.Test.YtcfmanhblonjeaaGreatDoorGg
import Derived.Test.YtcfmanhblonjeaaGreatDoorGh
import Derived.Test.YtcfmanhblonjeaaGreatDoorGj
import Derived.Test.YtcfmanhblonjeaaGreatDoorGl
import Derived.Test.YtcfmanhblonjeaaGreatDoorQ16
import Derived.Test.YtcfmanhblonjeaaGreatDoorQ17
import Derived.Test.YtcfmanhblonjeaaGreatDoorQ18
import Derived.Test.YtcfmanhblonjeaaGreatDoorTab
import Derived.Test.YtcfmanhblonjeaaGreatDoorGd
import Derived.Test.YtcfmanhblonjeaaGreatDoorGi
import Derived.Test.YtcfmanhblonjeaaGreatDoorVs33
namespace Go.Proofs.YtcfmanhblonjeaaGreatDoor
open Go.VS Go.Stp
set_option linter.all false
set_option maxRecDepth 100000
set_option maxHeartbeats 8000000
def basesS (l : List Int) (a : Nat) : Nat → List Gn × Nat
  | 0 => ([], a)
  | n + 1 => ((basesS l a n).1 ++ [(baseS l (basesS l a n).2).1], (baseS l (basesS l a n).2).2)
def subS (l : List Int) (a : Nat) : Sb × Nat :=
  if (dkX l a 4).toNat = 0 ∧ (dkX l (basesS l (dkA l a) (dkX l a 4).toNat).2 3).toNat = 0 then
    (⟨[], [(baseS l (dkA l (basesS l (dkA l a) (dkX l a 4).toNat).2)).1]⟩, (baseS l (dkA l (basesS l (dkA l a) (dkX l a 4).toNat).2)).2)
  else (⟨(basesS l (dkA l a) (dkX l a 4).toNat).1, (basesS l (dkA l (basesS l (dkA l a) (dkX l a 4).toNat).2) (dkX l (basesS l (dkA l a) (dkX l a 4).toNat).2 3).toNat).1⟩,
    (basesS l (dkA l (basesS l (dkA l a) (dkX l a 4).toNat).2) (dkX l (basesS l (dkA l a) (dkX l a 4).toNat).2 3).toNat).2)
theorem basesS_le {l : List Int} {a : Nat} (h : a ≤ l.length) : ∀ n, (basesS l a n).2 ≤ l.length
  | 0 => h
  | n + 1 => baseS_le (basesS_le h n)
theorem basesS_len {l : List Int} {a : Nat} : ∀ n, (basesS l a n).1.length = n
  | 0 => rfl
  | n + 1 => by simp [basesS, basesS_len n]
theorem basesS_wn {l : List Int} {a : Nat} : ∀ n, ∀ g ∈ (basesS l a n).1, WE g
  | 0 => by simp [basesS]
  | n + 1 => by
    intro r hr
    simp only [basesS, List.mem_append, List.mem_singleton] at hr
    rcases hr with hr | rfl
    · exact basesS_wn n r hr
    · exact baseS_wn
theorem subS_le {l : List Int} {a : Nat} (h : a ≤ l.length) : (subS l a).2 ≤ l.length := by
  have h1 := dkA_le (basesS_le (dkA_le h) (dkX l a 4).toNat)
  unfold subS
  split
  · exact baseS_le h1
  · exact basesS_le h1 _
theorem subS_len {l : List Int} {a : Nat} : (subS l a).1.p.length ≤ 3 ∧ (subS l a).1.x.length ≤ 2 := by
  have b4 := dkX_bounds (l := l) (a := a) (n := 4) (by omega)
  have b3 := dkX_bounds (l := l) (a := (basesS l (dkA l a) (dkX l a 4).toNat).2) (n := 3) (by omega)
  unfold subS
  split
  · simp
  · dsimp only; rw [basesS_len, basesS_len]; omega
theorem subS_ws {l : List Int} {a : Nat} : WS (subS l a).1 := by
  have h := subS_len (l := l) (a := a)
  refine ⟨⟨by omega, ?_⟩, by omega, ?_⟩
  · unfold subS
    split
    · simp
    · exact basesS_wn _
  · unfold subS
    split
    · intro g hg
      simp only [List.mem_singleton] at hg
      subst hg
      exact baseS_wn
    · exact basesS_wn _

attribute [local irreducible] arun arunD arunU AWp aend
theorem sub_call (l : List Int) (a : Nat) (hl : l.length ≤ 140737488355328) (ha : a ≤ l.length) (hr : ∀ k ∈ l, -9223372036854775808 ≤ k ∧ k ≤ 9223372036854775807) :
    MCall Tryz.prog 19 [.ref 0 0] (dk l a) (dk l (subS l a).2) (.agg (subS l a).1.c) := by
  have n4 : MCall Tryz.prog 7 [.ref 0 0, .int .i64 4] (dk l (a)) (dk l (dkA l (a))) (.int .i64 (dkX l (a) 4)) := next_call l (a) 4 hl (ha) (by omega) (by omega) hr
  have b4 := dkX_bounds (l := l) (a := a) (n := 4) (by omega)
  have ha1 := dkA_le ha
  unfold subS
  obtain ⟨k, hk⟩ : ∃ k, (dkX l a 4).toNat = k := ⟨_, rfl⟩
  have hk2 : dkX l a 4 = k := by omega
  rw [hk]
  rw [hk2] at n4
  have hk4 : k < 4 := by omega
  clear hk hk2 b4 ha
  generalize dkA l a = a1 at *
  have hc := basesS_le ha1 k
  have hplen := basesS_len (l := l) (a := a1) k
  obtain ⟨⟨P, c⟩, hP⟩ : ∃ q, basesS l a1 k = q := ⟨_, rfl⟩
  rw [hP]
  rw [hP] at hc hplen
  dsimp only at *
  have n3 : MCall Tryz.prog 7 [.ref 0 0, .int .i64 3] (dk l (c)) (dk l (dkA l (c))) (.int .i64 (dkX l (c) 3)) := next_call l (c) 3 hl (hc) (by omega) (by omega) hr
  have b3 := dkX_bounds (l := l) (a := c) (n := 3) (by omega)
  have hc1 := dkA_le hc
  obtain ⟨m, hm⟩ : ∃ m, (dkX l c 3).toNat = m := ⟨_, rfl⟩
  have hm2 : dkX l c 3 = m := by omega
  rw [hm]
  rw [hm2] at n3
  have hm3 : m < 3 := by omega
  clear hm hm2 b3 hc
  generalize dkA l c = c1 at *
  have bz := base_call l c1 hl hc1 hr
  refine mcall_body Tryz.func19 rfl Tryz.call19 ?_ ?_ ?_
  rotate_left 2
  refine awp_slots (s' := (.ref 0 0 : V) :: zJ 50) rfl ?_; dsimp only [zJ]
  · iterate 12 (first | ((first | refine Y0 rfl fun K9 h9 => ?_ | refine Y1 rfl rfl fun K9 h9 => ?_ | refine Y2 rfl rfl fun K9 h9 => ?_ | (refine Y3 ?_ ?_; (focus (simp; done)); intro K9 h9) | ((first | refine Y4 rfl ?_ ?_ | refine Y5 rfl ?_ ?_); (focus (simp; done)); intro K9 h9)); simp (disch := first | exact dd | fail); (try simp (disch := first | exact de | fail) only [X7]); ((repeat (refine Yz ?_)); (first | refine h9 _ _ (Ys ?_) | refine h9 _ _ (Yt ?_)); clear h9 K9)) | refine Y6 ?_ | refine Y7 ?_ | (refine Y8 fun K hK => ?_) | refine Y9 ?_ | (apply hK; clear hK K) | ((first | refine Yk (m := 2) (by decide +kernel) [] (by kernel_rfl) (by decide +kernel) ?_); simp only [List.replicate, XL]) | refine Ya ?_ | (refine Yb rfl ?_ ?_ <;> intro hcnd <;> (try simp at hcnd) <;> try exact dc) | refine Yc ?_ | (refine Yd ?_; simp only [X0, Nat.reduceBEq]) | (refine Ye ?_; refine Yf ?_) | (refine Yh ?_ ?_; (focus (simp; done)); refine Ys ?_) | ((first | refine Yi rfl ?_ ?_ | refine Yj rfl ?_ ?_); (focus (simp; done)); refine Yt ?_) | refine Yg ?_ | (simp only [X0, Nat.reduceBEq]) | (clear hK K; first | (apply hK; clear hK K) | (clear hK K; first | (apply hK; clear hK K) | (clear hK K; first | (apply hK; clear hK K) | (clear hK K; apply hK; clear hK K)))))
    refine awp_seq' fun K1 hK1 hL1 => ?_
    have main : K1 ([.ref 0 0, .junk, .ref 1 0, .ref 2 0, .junk, .junk, .junk, .junk, .junk, .junk, .junk, .junk, .junk, .junk, .junk, .junk, .junk, .junk, .junk, .junk, .junk, .junk, .junk, .junk, .junk, .junk, .junk, .junk, .junk, .junk, .junk, .junk, .junk, .junk, .junk, .junk, .junk, .junk, .junk, .junk, .junk, .junk, .junk, .junk, .junk, .junk, .junk, .junk, .junk, .junk, .junk]) [.live (dk l c), .live [.nils, .nils], .live [.osl 3 0 k 3, .nils], .live (P.flatMap Gn.c)] := by
      refine hK1 _ _ ?_
      clear hK1 hL1 K1 n4
      have hppu := gns_pures P
      have hpl := gns_len P
      have hPV : gnsV P = .sl k (P.flatMap Gn.c) := by rw [← hplen]; rfl
      generalize P.flatMap Gn.c = cp at *
      refine awp_seq' fun K2 hK2 hL2 => ?_
      have main2 : ∀ X e, basesS l c1 m = (X, e) → K2 ([.ref 0 0, .junk, .ref 1 0, .ref 2 0, .junk, .junk, .junk, .junk, .junk, .junk, .junk, .junk, .junk, .junk, .junk, .junk, .junk, .junk, .junk, .junk, .junk, .junk, .junk, .junk, .junk, .junk, .junk, .junk, .junk, .junk, .junk, .junk, .junk, .junk, .junk, .junk, .junk, .junk, .junk, .junk, .junk, .junk, .junk, .junk, .junk, .junk, .junk, .junk, .junk, .junk, .junk]) [.live (dk l e), .live [.nils, .nils], .live [.osl 3 0 k 3, .osl 4 0 m 3], .live cp, .live (X.flatMap Gn.c)] := by
        intro X e hX
        refine hK2 _ _ ?_
        have hxlen := basesS_len (l := l) (a := c1) m
        rw [hX] at hxlen ⊢
        dsimp only at *
        have hxpu := gns_pures X
        have hxl := gns_len X
        have hXV : gnsV X = .sl m (X.flatMap Gn.c) := by rw [← hxlen]; rfl
        have hkc : k * 3 = cp.length := by omega
        have hmc : m * 3 = (X.flatMap Gn.c).length := by omega
        clear hK2 hL2 n3
        by_cases hkm : k = 0 ∧ m = 0
        · obtain ⟨rfl, rfl⟩ := hkm
          obtain rfl : cp = [] := List.eq_nil_of_length_eq_zero (by omega)
          obtain ⟨rfl, rfl⟩ : [] = X ∧ c1 = e := by simpa [basesS] using hX
          simp only [and_self, if_true]
          generalize baseS l c1 = bs at *
          obtain ⟨g, d⟩ := bs
          dsimp only at *
          have hrr : Sb.c ⟨[], [g]⟩ = [.sl 0 [], .sl 1 g.c] := by simp [Sb.c, gnsV]
          rw [hrr]
          rw [show g.c = [.int .i64 g.kind, .str g.text, .sl g.name.length (g.name.map atsV)] from rfl] at *
          iterate 27 (first | ((first | refine Yl rfl fun K9 h9 => ?_ | refine Y1 rfl rfl fun K9 h9 => ?_ | refine Y2 rfl rfl fun K9 h9 => ?_ | (refine Ym ?_ ?_; (focus (simp; done)); intro K9 h9) | ((first | refine Y4 rfl ?_ ?_ | refine Y5 rfl ?_ ?_); (focus (simp; done)); intro K9 h9)); simp (disch := first | exact dd | fail); (try simp (disch := first | exact de | fail) only [X7]); ((first | refine acallF_mutd bz rfl (dk_pures _ _) (dk_pures _ _) (by simp) (by simp) ?_ | refine aeffS_load (v := .osl 4 0 0 3) rfl (by simp; done) (by simp; done) ?_ | skip) <;> ((repeat (refine Yz ?_)); (first | refine h9 _ _ (Yp ?_) | refine h9 _ _ (Yt ?_)); clear h9 K9))) | refine Yo ?_ | refine Y7 ?_ | (refine Y8 fun K hK => ?_) | refine Yq ?_ | (apply hK; clear hK K) | ((first | refine awp_region_drawL (m := 2) [(2, 1, .osl 4 0 0 3)] (by simp) (by decide +kernel) [0, 3, 0, 2, 0, 0, 0, 0] 7 (by kernel_rfl) (by kernel_rfl) (by decide +kernel) (by decide +kernel) ?_ | refine Yk (m := 2) (by decide +kernel) [0, 3, 0, 2, 0, 0, 0, 0] (by kernel_rfl) (by decide +kernel) ?_ | refine Yk (m := 2) (by decide +kernel) [] (by kernel_rfl) (by decide +kernel) ?_); simp only [List.replicate, XL]) | refine Ya ?_ | (refine Yb rfl ?_ ?_ <;> intro hcnd <;> (try simp at hcnd) <;> try exact dc) | refine Yc ?_ | (refine Yd ?_; simp only [X0, Nat.reduceBEq]) | (refine Ye ?_; refine Yf ?_) | (refine Yn ?_ ?_; (focus (simp; done)); refine Yp ?_) | ((first | refine Yi rfl ?_ ?_ | refine Yj rfl ?_ ?_); (focus (simp; done)); refine Yt ?_) | refine Yg ?_ | (simp only [X0, Nat.reduceBEq]) | (clear hK K; first | (apply hK; clear hK K) | (clear hK K; first | (apply hK; clear hK K) | (clear hK K; first | (apply hK; clear hK K) | (clear hK K; apply hK; clear hK K)))))
          rw [athen_normal]
          refine hK _ _ ?_
          clear hK K
          refine awp_freeze' 3 rfl (by simp) (by simp [fz]; rfl) (by simp [fzRow, fz, fz_map (dk_pures _ _)]; rfl) ?_
          refine awp_freeze' 6 rfl (by simp) (by simp [fz]; rfl) (by simp [fzRow, fz, fz_map (dk_pures _ _)]; rfl) ?_
          repeat' (first | ((first | refine Y0 rfl fun K9 h9 => ?_ | refine Y1 rfl rfl fun K9 h9 => ?_ | refine Y2 rfl rfl fun K9 h9 => ?_ | (refine Y3 ?_ ?_; (focus (simp; done)); intro K9 h9) | ((first | refine Y4 rfl ?_ ?_ | refine Y5 rfl ?_ ?_); (focus (simp; done)); intro K9 h9)); simp (disch := first | exact dd | fail); (try simp (disch := first | exact de | fail) only [X7]); ((repeat (refine Yz ?_)); (first | refine h9 _ _ (Ys ?_) | refine h9 _ _ (Yt ?_)); clear h9 K9)) | refine Y6 ?_ | refine Y7 ?_ | (refine Y8 fun K hK => ?_) | refine Y9 ?_ | (apply hK; clear hK K) | ((first | refine Yk (m := 2) (by decide +kernel) [] (by kernel_rfl) (by decide +kernel) ?_); simp only [List.replicate, XL]) | refine Ya ?_ | (refine Yb rfl ?_ ?_ <;> intro hcnd <;> (try simp at hcnd) <;> try exact dc) | refine Yc ?_ | (refine Yd ?_; simp only [X0, Nat.reduceBEq]) | (refine Ye ?_; refine Yf ?_) | (refine Yh ?_ ?_; (focus (simp; done)); refine Ys ?_) | ((first | refine Yi rfl ?_ ?_ | refine Yj rfl ?_ ?_); (focus (simp; done)); refine Yt ?_) | refine Yg ?_ | (simp only [X0, Nat.reduceBEq]) | clear hK K)
          simp
          exact mend_plain
        · rw [if_neg hkm]
          clear bz
          have hrr : Sb.c ⟨P, X⟩ = [.sl k cp, .sl m (X.flatMap Gn.c)] := by simp only [Sb.c, hPV, hXV]
          rw [hrr]
          generalize X.flatMap Gn.c = cx at *
          refine awp_freeze' 3 rfl hppu (by simp [fz, hkc]; rfl) (by simp [fzRow, fz, hkc, fz_map hxpu, fz_map (dk_pures _ _)]; rfl) ?_
          refine awp_freeze' 4 rfl hxpu (by simp [fz, hmc]; rfl) (by simp [fzRow, fz, hmc, fz_map (dk_pures _ _)]; rfl) ?_
          by_cases hk0 : k = 0
          · have hm0 : ¬ m = 0 := fun e => hkm ⟨hk0, e⟩
            repeat' (first | ((first | refine Yl rfl fun K9 h9 => ?_ | refine Y1 rfl rfl fun K9 h9 => ?_ | refine Y2 rfl rfl fun K9 h9 => ?_ | (refine Ym ?_ ?_; (focus (simp [hk0, hm0, hkc, hmc]; done)); intro K9 h9) | ((first | refine Y4 rfl ?_ ?_ | refine Y5 rfl ?_ ?_); (focus (simp [hk0, hm0, hkc, hmc]; done)); intro K9 h9)); simp (disch := first | exact dd | fail) [hk0, hm0, hkc, hmc]; (try simp (disch := first | exact de | fail) only [X7]); ((repeat (refine Yz ?_)); (first | refine h9 _ _ (Yp ?_) | refine h9 _ _ (Yt ?_)); clear h9 K9)) | refine Yo ?_ | refine Y7 ?_ | (refine Y8 fun K hK => ?_) | refine Yq ?_ | (apply hK; clear hK K) | ((first | refine Yk (m := 2) (by decide +kernel) [] (by kernel_rfl) (by decide +kernel) ?_); simp only [List.replicate, XL]) | refine Ya ?_ | (refine Yb rfl ?_ ?_ <;> intro hcnd <;> (try simp at hcnd) <;> try exact dc) | refine Yc ?_ | (refine Yd ?_; simp only [X0, Nat.reduceBEq]) | (refine Ye ?_; refine Yf ?_) | (refine Yn ?_ ?_; (focus (simp [hk0, hm0, hkc, hmc]; done)); refine Yp ?_) | ((first | refine Yi rfl ?_ ?_ | refine Yj rfl ?_ ?_); (focus (simp [hk0, hm0, hkc, hmc]; done)); refine Yt ?_) | refine Yg ?_ | (simp only [X0, Nat.reduceBEq]) | clear hK K)
            subst hk0
            simp
            exact mend_plain
          · repeat' (first | ((first | refine Yl rfl fun K9 h9 => ?_ | refine Y1 rfl rfl fun K9 h9 => ?_ | refine Y2 rfl rfl fun K9 h9 => ?_ | (refine Ym ?_ ?_; (focus (simp [hk0, hkc, hmc]; done)); intro K9 h9) | ((first | refine Y4 rfl ?_ ?_ | refine Y5 rfl ?_ ?_); (focus (simp [hk0, hkc, hmc]; done)); intro K9 h9)); simp (disch := first | exact dd | fail) [hk0, hkc, hmc]; (try simp (disch := first | exact de | fail) only [X7]); ((repeat (refine Yz ?_)); (first | refine h9 _ _ (Yp ?_) | refine h9 _ _ (Yt ?_)); clear h9 K9)) | refine Yo ?_ | refine Y7 ?_ | (refine Y8 fun K hK => ?_) | refine Yq ?_ | (apply hK; clear hK K) | ((first | refine Yk (m := 2) (by decide +kernel) [] (by kernel_rfl) (by decide +kernel) ?_); simp only [List.replicate, XL]) | refine Ya ?_ | (refine Yb rfl ?_ ?_ <;> intro hcnd <;> (try simp at hcnd) <;> try exact dc) | refine Yc ?_ | (refine Yd ?_; simp only [X0, Nat.reduceBEq]) | (refine Ye ?_; refine Yf ?_) | (refine Yn ?_ ?_; (focus (simp [hk0, hkc, hmc]; done)); refine Yp ?_) | ((first | refine Yi rfl ?_ ?_ | refine Yj rfl ?_ ?_); (focus (simp [hk0, hkc, hmc]; done)); refine Yt ?_) | refine Yg ?_ | (simp only [X0, Nat.reduceBEq]) | clear hK K)
            simp
            exact mend_plain
      clear hK2
      repeat' (first | ((first | refine Y0 rfl fun K9 h9 => ?_ | refine Y1 rfl rfl fun K9 h9 => ?_ | refine Y2 rfl rfl fun K9 h9 => ?_ | (refine Y3 ?_ ?_; (focus (simp; done)); intro K9 h9) | ((first | refine Y4 rfl ?_ ?_ | refine Y5 rfl ?_ ?_); (focus (simp; done)); intro K9 h9)); simp (disch := first | exact dd | fail); (try simp (disch := first | exact de | fail) only [X7]); ((first | refine acall_mutd n3 rfl (dk_pures _ _) (dk_pures _ _) .int (by simp) ?_ | skip) <;> ((repeat (refine Yz ?_)); (first | refine h9 _ _ (Ys ?_) | refine h9 _ _ (Yt ?_)); clear h9 K9))) | refine Y6 ?_ | refine Y7 ?_ | (refine Y8 fun K hK => ?_) | refine Y9 ?_ | (apply hK; clear hK K) | ((first | refine Yk (m := 2) (by decide +kernel) [] (by kernel_rfl) (by decide +kernel) ?_); simp only [List.replicate, XL]) | refine Ya ?_ | (refine Yb rfl ?_ ?_ <;> intro hcnd <;> (try simp at hcnd) <;> try exact dc) | refine Yc ?_ | (refine Yd ?_; simp only [X0, Nat.reduceBEq]) | (refine Ye ?_; refine Yf ?_) | (refine Yh ?_ ?_; (focus (simp; done)); refine Ys ?_) | ((first | refine Yi rfl ?_ ?_ | refine Yj rfl ?_ ?_); (focus (simp; done)); refine Yt ?_) | refine Yg ?_ | (simp only [X0, Nat.reduceBEq]) | clear hK K)
      refine awp_countU (fun i => (zN 4 (some V.junk :: some (V.int .i64 ((m : Int) - i)) :: zS 45 []))) (fun i => [.live (dk l (basesS l c1 i).2), .live [.nils, .nils], .live [.osl 3 0 k 3, .osl 4 0 i 3], .live cp, .live ((basesS l c1 i).1.flatMap Gn.c)]) m ?_ fun i hi KL hL => ?_
      · dsimp only [ups, zN, zS]
        exact Yr [some 0, some 1, some 2, some 3, none] (by simp [rowsOver, rowRen_live, basesS, rens_pures, rens_pures hppu])
      dsimp only [ups, zN, zS]
      rcases Nat.lt_or_ge i m with hi | hi
      · have hle := basesS_le hc1 i
        have hlen := basesS_len (l := l) (a := c1) i
        have hs : basesS l c1 (i + 1) = ((basesS l c1 i).1 ++ [(baseS l (basesS l c1 i).2).1], (baseS l (basesS l c1 i).2).2) := rfl
        rw [hs] at hL
        clear hs
        obtain ⟨⟨X, e⟩, hX⟩ : ∃ q, basesS l c1 i = q := ⟨_, rfl⟩
        rw [hX] at hle hlen hL ⊢
        dsimp only at *
        have bc := base_call l e hl hle hr
        have hxpu := gns_pures X
        have hxl := gns_len X
        generalize baseS l e = bs at *
        obtain ⟨g, d⟩ := bs
        dsimp only at *
        rw [List.flatMap_append, List.flatMap_singleton] at hL
        rw [show g.c = [.int .i64 g.kind, .str g.text, .sl g.name.length (g.name.map atsV)] from rfl] at *
        generalize X.flatMap Gn.c = cx at *
        clear main2 hL2 bz n3 hX hplen hP hPV
        repeat' (first | ((first | refine Y0 rfl fun K9 h9 => ?_ | refine Y1 rfl rfl fun K9 h9 => ?_ | refine Y2 rfl rfl fun K9 h9 => ?_ | (refine Y3 ?_ ?_; (focus (simp [hxl, hlen]; done)); intro K9 h9) | ((first | refine Y4 rfl ?_ ?_ | refine Y5 rfl ?_ ?_); (focus (simp [hxl, hlen]; done)); intro K9 h9)); simp (disch := first | exact dd | fail) [hxl, hlen]; (try simp (disch := first | exact de | fail) only [X7]); ((first | refine acallF_mutd bc rfl (dk_pures _ _) (dk_pures _ _) (by simp) (by simp) ?_ | refine aeffS_load (v := .osl 4 0 i 3) rfl (by simp; done) (by simp; done) ?_ | skip) <;> ((repeat (refine Yz ?_)); (first | refine h9 _ _ (Ys ?_) | refine h9 _ _ (Yt ?_)); clear h9 K9))) | refine Y6 ?_ | refine Y7 ?_ | (refine Y8 fun K hK => ?_) | refine Y9 ?_ | (apply hK; clear hK K) | ((first | refine awp_region_drawL (m := 2) [(2, 1, .osl 4 0 i 3)] (by simp) (by decide +kernel) [0, 3, 0, 2, 0, 0, 0, 0] 7 (by kernel_rfl) (by kernel_rfl) (by decide +kernel) (by decide +kernel) ?_ | refine Yk (m := 2) (by decide +kernel) [0, 3, 0, 2, 0, 0, 0, 0] (by kernel_rfl) (by decide +kernel) ?_ | refine Yk (m := 2) (by decide +kernel) [] (by kernel_rfl) (by decide +kernel) ?_); simp only [List.replicate, XL]) | refine Ya ?_ | (refine Yb rfl ?_ ?_ <;> intro hcnd <;> (try simp at hcnd) <;> try exact dc) | refine Yc ?_ | (refine Yd ?_; simp only [X0, Nat.reduceBEq]) | (refine Ye ?_; refine Yf ?_) | (refine Yh ?_ ?_; (focus (simp [hxl, hlen]; done)); refine Ys ?_) | ((first | refine Yi rfl ?_ ?_ | refine Yj rfl ?_ ?_); (focus (simp [hxl, hlen]; done)); refine Yt ?_) | refine Yg ?_ | (simp only [X0, Nat.reduceBEq]) | clear hK K)
        have hp3 : Pures (cx ++ [V.int .i64 g.kind, .str g.text, .sl g.name.length (g.name.map atsV)]) := by simp [hxpu]
        refine hL _ _ hi ?_
        exact Yr [some 0, some 1, some 2, some 3, some 6] (by simp [rowsOver, rowRen_live, rens_pures, rens_pures hp3, rens_pures hppu, List.take_of_length_le, hxl, hlen])
      · obtain rfl : i = m := by omega
        obtain ⟨⟨X, e⟩, hX⟩ : ∃ q, basesS l c1 i = q := ⟨_, rfl⟩
        have hlen := basesS_len (l := l) (a := c1) i
        have hxpu := gns_pures X
        rw [hX] at hlen ⊢
        dsimp only at *
        repeat' (first | ((first | refine Y0 rfl fun K9 h9 => ?_ | refine Y1 rfl rfl fun K9 h9 => ?_ | refine Y2 rfl rfl fun K9 h9 => ?_ | (refine Y3 ?_ ?_; (focus (simp; done)); intro K9 h9) | ((first | refine Y4 rfl ?_ ?_ | refine Y5 rfl ?_ ?_); (focus (simp; done)); intro K9 h9)); simp (disch := first | exact dd | fail); (try simp (disch := first | exact de | fail) only [X7]); ((repeat (refine Yz ?_)); (first | refine h9 _ _ (Ys ?_) | refine h9 _ _ (Yt ?_)); clear h9 K9)) | refine Y6 ?_ | refine Y7 ?_ | (refine Y8 fun K hK => ?_) | refine Y9 ?_ | (apply hK; clear hK K) | ((first | refine Yk (m := 2) (by decide +kernel) [] (by kernel_rfl) (by decide +kernel) ?_); simp only [List.replicate, XL]) | refine Ya ?_ | (refine Yb rfl ?_ ?_ <;> intro hcnd <;> (try simp at hcnd) <;> try exact dc) | refine Yc ?_ | (refine Yd ?_; simp only [X0, Nat.reduceBEq]) | (refine Ye ?_; refine Yf ?_) | (refine Yh ?_ ?_; (focus (simp; done)); refine Ys ?_) | ((first | refine Yi rfl ?_ ?_ | refine Yj rfl ?_ ?_); (focus (simp; done)); refine Yt ?_) | refine Yg ?_ | (simp only [X0, Nat.reduceBEq]) | clear hK K)
        refine hL2 _ _ _ _ ?_ (main2 X e hX)
        exact Yr [some 0, some 1, some 2, some 3, some 4] (by simp [rowsOver, rowRen_live, rens_pures, rens_pures hppu, rens_pures hxpu])
    clear hK1
    repeat' (first | ((first | refine Y0 rfl fun K9 h9 => ?_ | refine Y1 rfl rfl fun K9 h9 => ?_ | refine Y2 rfl rfl fun K9 h9 => ?_ | (refine Y3 ?_ ?_; (focus (simp; done)); intro K9 h9) | ((first | refine Y4 rfl ?_ ?_ | refine Y5 rfl ?_ ?_); (focus (simp; done)); intro K9 h9)); simp (disch := first | exact dd | fail); (try simp (disch := first | exact de | fail) only [X7]); ((first | refine acall_mutd n4 rfl (dk_pures _ _) (dk_pures _ _) .int (by simp) ?_ | skip) <;> ((repeat (refine Yz ?_)); (first | refine h9 _ _ (Ys ?_) | refine h9 _ _ (Yt ?_)); clear h9 K9))) | refine Y6 ?_ | refine Y7 ?_ | (refine Y8 fun K hK => ?_) | refine Y9 ?_ | (apply hK; clear hK K) | ((first | refine Yk (m := 2) (by decide +kernel) [] (by kernel_rfl) (by decide +kernel) ?_); simp only [List.replicate, XL]) | refine Ya ?_ | (refine Yb rfl ?_ ?_ <;> intro hcnd <;> (try simp at hcnd) <;> try exact dc) | refine Yc ?_ | (refine Yd ?_; simp only [X0, Nat.reduceBEq]) | (refine Ye ?_; refine Yf ?_) | (refine Yh ?_ ?_; (focus (simp; done)); refine Ys ?_) | ((first | refine Yi rfl ?_ ?_ | refine Yj rfl ?_ ?_); (focus (simp; done)); refine Yt ?_) | refine Yg ?_ | (simp only [X0, Nat.reduceBEq]) | clear hK K)
    refine awp_countU (fun i => (zN 4 (some (V.int .i64 ((k : Int) - i)) :: zS 46 []))) (fun i => [.live (dk l (basesS l a1 i).2), .live [.nils, .nils], .live [.osl 3 0 i 3, .nils], .live ((basesS l a1 i).1.flatMap Gn.c)]) k ?_ fun i hi KL hL => ?_
    · dsimp only [ups, zN, zS]
      exact Yr [some 0, some 1, some 2, none] (by simp [rowsOver, rowRen_live, basesS, rens_pures])
    dsimp only [ups, zN, zS]
    rcases Nat.lt_or_ge i k with hi | hi
    · have hle := basesS_le ha1 i
      have hlen := basesS_len (l := l) (a := a1) i
      have hs : basesS l a1 (i + 1) = ((basesS l a1 i).1 ++ [(baseS l (basesS l a1 i).2).1], (baseS l (basesS l a1 i).2).2) := rfl
      rw [hs] at hL
      clear hs
      obtain ⟨⟨X, e⟩, hX⟩ : ∃ q, basesS l a1 i = q := ⟨_, rfl⟩
      rw [hX] at hle hlen hL ⊢
      dsimp only at *
      have bc := base_call l e hl hle hr
      have hxpu := gns_pures X
      have hxl := gns_len X
      generalize baseS l e = bs at *
      obtain ⟨g, d⟩ := bs
      dsimp only at *
      rw [List.flatMap_append, List.flatMap_singleton] at hL
      rw [show g.c = [.int .i64 g.kind, .str g.text, .sl g.name.length (g.name.map atsV)] from rfl] at *
      generalize X.flatMap Gn.c = cx at *
      clear main hL1 bz n3 n4 hX hplen hP
      repeat' (first | ((first | refine Y0 rfl fun K9 h9 => ?_ | refine Y1 rfl rfl fun K9 h9 => ?_ | refine Y2 rfl rfl fun K9 h9 => ?_ | (refine Y3 ?_ ?_; (focus (simp [hxl, hlen]; done)); intro K9 h9) | ((first | refine Y4 rfl ?_ ?_ | refine Y5 rfl ?_ ?_); (focus (simp [hxl, hlen]; done)); intro K9 h9)); simp (disch := first | exact dd | fail) [hxl, hlen]; (try simp (disch := first | exact de | fail) only [X7]); ((first | refine acallF_mutd bc rfl (dk_pures _ _) (dk_pures _ _) (by simp) (by simp) ?_ | refine aeffS_load (v := .osl 3 0 i 3) rfl (by simp; done) (by simp; done) ?_ | skip) <;> ((repeat (refine Yz ?_)); (first | refine h9 _ _ (Ys ?_) | refine h9 _ _ (Yt ?_)); clear h9 K9))) | refine Y6 ?_ | refine Y7 ?_ | (refine Y8 fun K hK => ?_) | refine Y9 ?_ | (apply hK; clear hK K) | ((first | refine awp_region_drawL (m := 2) [(2, 0, .osl 3 0 i 3)] (by simp) (by decide +kernel) [0, 3, 0, 2, 0, 0, 0, 0] 7 (by kernel_rfl) (by kernel_rfl) (by decide +kernel) (by decide +kernel) ?_ | refine Yk (m := 2) (by decide +kernel) [0, 3, 0, 2, 0, 0, 0, 0] (by kernel_rfl) (by decide +kernel) ?_ | refine Yk (m := 2) (by decide +kernel) [] (by kernel_rfl) (by decide +kernel) ?_); simp only [List.replicate, XL]) | refine Ya ?_ | (refine Yb rfl ?_ ?_ <;> intro hcnd <;> (try simp at hcnd) <;> try exact dc) | refine Yc ?_ | (refine Yd ?_; simp only [X0, Nat.reduceBEq]) | (refine Ye ?_; refine Yf ?_) | (refine Yh ?_ ?_; (focus (simp [hxl, hlen]; done)); refine Ys ?_) | ((first | refine Yi rfl ?_ ?_ | refine Yj rfl ?_ ?_); (focus (simp [hxl, hlen]; done)); refine Yt ?_) | refine Yg ?_ | (simp only [X0, Nat.reduceBEq]) | clear hK K)
      have hp3 : Pures (cx ++ [V.int .i64 g.kind, .str g.text, .sl g.name.length (g.name.map atsV)]) := by simp [hxpu]
      refine hL _ _ hi ?_
      exact Yr [some 0, some 1, some 2, some 5] (by simp [rowsOver, rowRen_live, rens_pures, rens_pures hp3, List.take_of_length_le, hxl, hlen])
    · obtain rfl : i = k := by omega
      rw [hP]
      have hppu := gns_pures P
      dsimp only at *
      repeat' (first | ((first | refine Y0 rfl fun K9 h9 => ?_ | refine Y1 rfl rfl fun K9 h9 => ?_ | refine Y2 rfl rfl fun K9 h9 => ?_ | (refine Y3 ?_ ?_; (focus (simp; done)); intro K9 h9) | ((first | refine Y4 rfl ?_ ?_ | refine Y5 rfl ?_ ?_); (focus (simp; done)); intro K9 h9)); simp (disch := first | exact dd | fail); (try simp (disch := first | exact de | fail) only [X7]); ((repeat (refine Yz ?_)); (first | refine h9 _ _ (Ys ?_) | refine h9 _ _ (Yt ?_)); clear h9 K9)) | refine Y6 ?_ | refine Y7 ?_ | (refine Y8 fun K hK => ?_) | refine Y9 ?_ | (apply hK; clear hK K) | ((first | refine Yk (m := 2) (by decide +kernel) [] (by kernel_rfl) (by decide +kernel) ?_); simp only [List.replicate, XL]) | refine Ya ?_ | (refine Yb rfl ?_ ?_ <;> intro hcnd <;> (try simp at hcnd) <;> try exact dc) | refine Yc ?_ | (refine Yd ?_; simp only [X0, Nat.reduceBEq]) | (refine Ye ?_; refine Yf ?_) | (refine Yh ?_ ?_; (focus (simp; done)); refine Ys ?_) | ((first | refine Yi rfl ?_ ?_ | refine Yj rfl ?_ ?_); (focus (simp; done)); refine Yt ?_) | refine Yg ?_ | (simp only [X0, Nat.reduceBEq]) | clear hK K)
      refine hL1 _ _ _ _ ?_ main
      exact Yr [some 0, some 1, some 2, some 3] (by simp [rowsOver, rowRen_live, rens_pures, rens_pures hppu])
  · simp
  · exact dk_pures _ _
end Go.Proofs.YtcfmanhblonjeaaGreatDoor

