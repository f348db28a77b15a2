/-
  SCOPE: ScopePlain, ScopeReasonsMeet.
  Conditions: none.
-/
import Derived.Test.YtbdfghlkkdkpgaaDoorGe
import Derived.Test.YtbdfghlkkdkpgaaDoorGf
import Derived.Test.YtbdfghlkkdkpgaaDoorP1
import Derived.Test.YtbdfghlkkdkpgaaDoorP2
import Derived.Test.YtbdfghlkkdkpgaaDoorP3
import Derived.Test.YtbdfghlkkdkpgaaDoorP4
import Derived.Test.YtbdfghlkkdkpgaaDoorP7
import Derived.Test.YtbdfghlkkdkpgaaDoorP8
import Derived.Test.YtbdfghlkkdkpgaaDoorP10
import Derived.Test.YtbdfghlkkdkpgaaDoorP11
import Derived.Test.YtbdfghlkkdkpgaaDoorP12
import Derived.Test.YtbdfghlkkdkpgaaDoorP13
import Derived.Test.YtbdfghlkkdkpgaaDoorP15
import Derived.Test.YtbdfghlkkdkpgaaDoorGj
import Derived.Test.YtbdfghlkkdkpgaaDoorQ6
import Derived.Test.YtbdfghlkkdkpgaaDoorGl
import Derived.Test.YtbdfghlkkdkpgaaDoorQ16
import Derived.Test.YtbdfghlkkdkpgaaDoorQ17
import Derived.Test.YtbdfghlkkdkpgaaDoorQ18
import Derived.Test.YtbdfghlkkdkpgaaDoorQ25
import Derived.Test.YtbdfghlkkdkpgaaDoorQ26
import Derived.Test.YtbdfghlkkdkpgaaDoorQ27
import Derived.Test.YtbdfghlkkdkpgaaDoorQ28
import Derived.Test.YtbdfghlkkdkpgaaDoorTab
import Derived.Test.YtbdfghlkkdkpgaaDoorGd
import Derived.Test.YtbdfghlkkdkpgaaDoorGi
import Derived.Test.YtbdfghlkkdkpgaaDoorVs31
import Derived.Test.YtbdfghlkkdkpgaaDoorVs33
import Derived.Test.YtbdfghlkkdkpgaaDoorVs34
import Derived.Test.YtbdfghlkkdkpgaaDoorVs35
import Derived.Test.YtbdfghlkkdkpgaaDoorVs36
import Derived.Test.YtbdfghlkkdkpgaaDoorVs37
set_option linter.all false
namespace Go.Proofs.YtbdfghlkkdkpgaaDoor
open Go.VS Go.Stp
set_option linter.all false
set_option maxRecDepth 100000
set_option maxHeartbeats 16000000
attribute [local irreducible] arun arunD arunU AWp aend bits
theorem newP_call (x : Int) : GCall Tryd.prog 9 [.osl 0 0 1 1] [[.int .i64 x]] ([[.int .i64 x]] ++ [[.osl 0 0 1 1, .int .i64 0]]) (.ref 1 0) := by
  refine gcall_body Tryd.func9 rfl Tryd.call9 ?_
  refine awp_slots (s' := [(.osl 0 0 1 1 : V), .junk, .junk, .junk, .junk, .junk]) rfl ?_
  refine awp_rows (rows' := [.live [.int .i64 x]]) rfl ?_
  repeat' (first | (refine Y0 rfl fun K9 h9 => ?_; simp (disch := (first | (simp; done) | omega | (simp; omega))); (try simp (disch := (first | omega | (simp; omega))) only [X7, X8, X9, Xa, Xb, Xc]); ((repeat (refine Yz ?_)); (first | refine h9 _ _ (Ys ?_)); clear h9 K9)) | refine Y6 ?_ | (refine Y8 fun K hK => ?_) | refine Y9 ?_ | (apply hK; clear hK K) | (refine Ye ?_; refine Yf ?_) | refine Yg ?_ | (simp only [X0, X1, X2, X3, X4, X5, X6, Nat.reduceBEq]) | (clear hK K; first | (apply hK; clear hK K) | (clear hK K; first | (apply hK; clear hK K) | (clear hK K; first | (apply hK; clear hK K) | (clear hK K; apply hK; clear hK K)))))
  simp
  exact Yr [some 0, some 1] (by simp [rowsOver, rowRen_live])
theorem nextP_call (x : Int) (n : Nat) (hx : -9223372036854775808 ≤ x ∧ x ≤ 9223372036854775807) (hn : 0 < n) (hn2 : n ≤ 1099511627776) :
    GCall Tryd.prog 18 [.ref 1 0, .int .i64 n] [[.int .i64 x], [.osl 0 0 1 1, .int .i64 0]] ([[.int .i64 x], [.osl 0 0 1 1, .int .i64 1]] ++ []) (.int .i64 (dkX [x] 0 n)) := by
  refine gcall_body Tryd.func18 rfl Tryd.call18 ?_
  refine awp_slots (s' := [(.ref 1 0 : V), (.int .i64 n : V), .junk, .junk, .junk, .junk, .junk, .junk, .junk, .junk, .junk, .junk, .junk, .junk, .junk, .junk, .junk, .junk, .junk, .junk, .junk, .junk, .junk, .junk, .junk, .junk, .junk, .junk, .junk, .junk, .junk, .junk, .junk, .junk, .junk, .junk, .junk, .junk, .junk]) rfl ?_
  refine awp_rows (rows' := [.live [.int .i64 x], .live [.osl 0 0 1 1, .int .i64 0]]) rfl ?_
  have hb := tmod_bounds (x := x) hn
  have e : dkX [x] 0 n = x.tmod n % n := by
    have : dkX [x] 0 n = (x.tmod n + n).tmod n := by simp [dkX]
    rw [this, Int.tmod_eq_emod_of_nonneg (by omega)]
    simp
  rw [e]
  repeat' (first | ((first | refine Y0 rfl fun K9 h9 => ?_ | refine Y1 rfl rfl fun K9 h9 => ?_ | refine Y2 rfl rfl fun K9 h9 => ?_); simp (disch := (first | (simp; done) | omega | (simp; omega))); (try simp (disch := (first | omega | (simp; omega))) only [X7, X8, X9, Xa, Xb, Xc]); ((repeat (refine Yz ?_)); (first | refine h9 _ _ (Ys ?_) | refine h9 _ _ (Yt ?_)); clear h9 K9)) | refine Y6 ?_ | refine Y7 ?_ | (refine Y8 fun K hK => ?_) | refine Y9 ?_ | (apply hK; clear hK K) | ((first | refine Yk (m := 0) (by decide +kernel) [] (by kernel_rfl) (by decide +kernel) ?_ | refine Yk (m := 0) (by decide +kernel) [] (by kernel_rfl) (by decide +kernel) ?_); dsimp only [List.replicate, List.append_nil, List.cons_append, List.nil_append, List.length_cons, List.length_nil]) | (refine Yb rfl (fun hcnd => ?_) (fun hcnd => ?_) <;> (try simp at hcnd) <;> (try contradiction) <;> (try (exfalso; omega))) | refine Yc ?_ | (refine Ye ?_; refine Yf ?_) | refine Yg ?_ | (simp only [X0, X1, X2, X3, X4, X5, X6, Nat.reduceBEq]) | (clear hK K; first | (apply hK; clear hK K) | (clear hK K; first | (apply hK; clear hK K) | (clear hK K; first | (apply hK; clear hK K) | (clear hK K; apply hK; clear hK K)))))
  all_goals (simp; exact Le.mk [some 0, some 1] (by simp) (rowsRen_of (by simp) (by simp [rowsOver, rowRen_live])) (fun j hj => by match j, hj with | 0, _ => rfl | 1, _ => rfl | j + 2, hj => exact absurd (show j + 2 < 2 from hj) (by omega)))

theorem scopeReasonsMeet_call (n : Int) (hn : -9223372036854775808 ≤ n ∧ n ≤ 9223372036854775807) : PCall Tryd.prog 6 [.int .i64 n] (.bool true) := by
  have aw := awake27_call
  have a0 : PCall Tryd.prog 17 [.int .i64 0] (.agg [nmV (authN 0)]) := auth_call 0 (by omega)
  have no := newP_call n
  have nxq := nextP_call n 256 hn (by omega) (by omega)
  have hb := dkX_bounds (l := [n]) (a := 0) (n := 256) (by omega)
  obtain ⟨k, hk, hk2⟩ : ∃ k : Nat, dkX [n] 0 256 = k ∧ k < 256 := ⟨(dkX [n] 0 256).toNat, by omega, by omega⟩
  rw [hk] at nxq
  have hmt := meet_all k hk2
  have m1 : PCall Tryd.prog 15 [.agg [.str [], .str [], .int .i64 0, nmV (authN 0), .nils, .int .i64 0, .int .i64 0, .int .i64 0, .str [], .str [], .bool false, .bool false, .int .i64 0, .int .i64 0, .nils, .nils, .nils, .int .i64 0, .int .i64 0, .int .i64 0, .nils, .bool false, .nils, .nils, .str [], .str [], .nils, .nils, .nils, .str []], .agg [.str [], .str [], nmV (authN 0), .int .i64 0, .int .i64 0, .int .i64 0, .int .i64 0, .str [], .bool true, .nils, .bool false, .bool false, .int .i64 (k * 2), .bool false, .nils, .nils, .str []]] _ := pcall_nza (smask_call (c0s 0 (authN 0) false) (lz (authN 0) true false ((k : Int) * 2) 0 0) (authN_w _) (lz_w (authN_w _)) (by simp [c0s]) (fun p hp => by simp [c0s] at hp)) rfl
  have m2 : PCall Tryd.prog 15 [.agg [.str [], .str [], .int .i64 0, nmV (authN 0), .nils, .int .i64 0, .int .i64 0, .int .i64 0, .str [], .str [], .bool false, .bool false, .int .i64 0, .int .i64 0, .nils, .nils, .nils, .int .i64 0, .int .i64 0, .int .i64 0, .nils, .bool false, .nils, .nils, .str [], .str [], .nils, .nils, .nils, .str []], .agg [.str [], .str [], nmV (authN 0), .int .i64 0, .int .i64 0, .int .i64 0, .int .i64 0, .str [], .bool true, .nils, .bool false, .bool false, .int .i64 (bits .andNot .i64 510 (k * 2)), .bool false, .nils, .nils, .str []]] _ := pcall_nza (smask_call (c0s 0 (authN 0) false) (lz (authN 0) true false (bits .andNot .i64 510 ((k : Int) * 2)) 0 0) (authN_w _) (lz_w (authN_w _)) (by simp [c0s]) (fun p hp => by simp [c0s] at hp)) rfl
  dsimp only at hmt
  generalize maskS (c0s 0 (authN 0) false) (lz (authN 0) true false ((k : Int) * 2) 0 0) = MA at *
  generalize maskS (c0s 0 (authN 0) false) (lz (authN 0) true false (bits .andNot .i64 510 ((k : Int) * 2)) 0 0) = MB at *
  generalize authN 0 = A0 at *
  have hkb : 0 ≤ (k : Int) * 2 ∧ (k : Int) * 2 ≤ 510 := by omega
  refine pcall_body Tryd.func6 rfl Tryd.call6 ?_ ?_
  rotate_left 1
  refine awp_slots (s' := ((.int .i64 n : V) :: V.junk :: V.junk :: V.junk :: V.junk :: V.junk :: V.junk :: V.junk :: V.junk :: V.junk :: V.junk :: V.junk :: V.junk :: V.junk :: V.junk :: V.junk :: V.junk :: V.junk :: V.junk :: V.junk :: V.junk :: V.junk :: V.junk :: V.junk :: V.junk :: V.junk :: V.junk :: V.junk :: V.junk :: V.junk :: V.junk :: V.junk :: V.junk :: V.junk :: V.junk :: V.junk :: V.junk :: V.junk :: V.junk :: V.junk :: V.junk :: V.junk :: V.junk :: V.junk :: V.junk :: V.junk :: V.junk :: V.junk :: V.junk :: V.junk :: V.junk :: V.junk :: V.junk :: V.junk :: V.junk :: V.junk :: V.junk :: V.junk :: V.junk :: V.junk :: V.junk :: V.junk :: [])) rfl ?_
  refine awp_seq fun K hK => ?_
  repeat' (first | ((first | refine Y0 rfl fun K9 h9 => ?_ | (refine Y3 ?_ ?_; (focus (simp; done)); intro K9 h9)); simp (disch := (first | (simp; done) | omega | (simp; omega))); (try simp (disch := (first | omega | (simp; omega))) only [X7, X8, X9, Xa, Xb, Xc]); ((repeat (refine Yz ?_)); (first | refine h9 _ _ (Ys ?_)); clear h9 K9)) | refine Y6 ?_ | refine Y9 ?_ | (refine Yb rfl (fun hcnd => ?_) (fun hcnd => ?_) <;> (try simp at hcnd) <;> (try contradiction) <;> (try (exfalso; omega))) | refine Yc ?_ | (refine Ye ?_; refine Yf ?_) | (refine Yh ?_ ?_; (focus (simp; done)); refine Ys ?_) | refine Yg ?_ | (simp only [X0, X1, X2, X3, X4, X5, X6, Nat.reduceBEq]))
  refine hK _ _ ?_; clear hK K
  refine awp_seq fun K hK => ?_
  repeat' (first | ((first | refine Y0 rfl fun K9 h9 => ?_ | (refine Y3 ?_ ?_; (focus (simp; done)); intro K9 h9)); simp (disch := (first | (simp; done) | omega | (simp; omega))); (try simp (disch := (first | omega | (simp; omega))) only [X7, X8, X9, Xa, Xb, Xc]); ((first | refine acall_gen (rows' := [[.int .i64 n]]) (news := [[.osl 0 0 1 1, .int .i64 0]]) [0] [[.int .i64 n]] [[.osl 0 0 1 1, .int .i64 0]] no (by simp) (by simp [rowsOver, rowRen_live]) (by simp) rfl rfl (by simp [behind]) (rc := .ref 1 0) (by simp [behind]) ?_ | refine acall_gen (rows' := [[.int .i64 n], [.osl 0 0 1 1, .int .i64 1]]) (news := []) [0, 1] [[.int .i64 n], [.osl 0 0 1 1, .int .i64 1]] [] nxq (by simp) (by simp [rowsOver, rowRen_live]) (by simp) rfl rfl (by simp [behind]) (rc := .int .i64 k) (by simp) ?_ | skip) <;> ((repeat (refine Yz ?_)); (first | refine h9 _ _ (Ys ?_)); clear h9 K9))) | refine Y6 ?_ | refine Y9 ?_ | (refine Yb rfl (fun hcnd => ?_) (fun hcnd => ?_) <;> (try simp at hcnd) <;> (try contradiction) <;> (try (exfalso; omega))) | refine Yc ?_ | (refine Ye ?_; refine Yf ?_) | (refine Yh ?_ ?_; (focus (simp; done)); refine Ys ?_) | refine Yg ?_ | (simp only [X0, X1, X2, X3, X4, X5, X6, Nat.reduceBEq]))
  refine hK _ _ ?_; clear hK K
  generalize (k : Int) * 2 = r at *
  rcases hmt with ⟨h0, h1, h2⟩ | ⟨h0, h1, h2, h3, h4⟩
  · subst h1
    subst h2
    rcases h0 with rfl | rfl
    · repeat' (first | ((first | refine Yl rfl fun K9 h9 => ?_ | (refine Ym ?_ ?_; (focus (simp; done)); intro K9 h9)); simp (disch := (first | (simp; done) | omega | (simp; omega))); (try simp (disch := (first | omega | (simp; omega))) only [X7, X8, X9, Xa, Xb, Xc]); ((first | refine acall_pure (a0) (by simp) ?_ | refine acall_pure (m1) (by simp) ?_ | refine acall_pure (m2) (by simp) ?_ | refine acall_pure (aw) (by simp) ?_ | skip) <;> ((repeat (refine Yz ?_)); (first | refine h9 _ _ (Yp ?_)); clear h9 K9))) | refine Yo ?_ | (refine Y8 fun K hK => ?_) | refine Yq ?_ | (apply hK; clear hK K) | (refine Yb rfl (fun hcnd => ?_) (fun hcnd => ?_) <;> (try simp at hcnd) <;> (try contradiction) <;> (try (exfalso; omega))) | refine Yc ?_ | (refine Ye ?_; refine Yf ?_) | (refine Yn ?_ ?_; (focus (simp; done)); refine Yp ?_) | refine Yg ?_ | (simp only [X0, X1, X2, X3, X4, X5, X6, Nat.reduceBEq]) | (clear hK K; first | (apply hK; clear hK K) | (clear hK K; first | (apply hK; clear hK K) | (clear hK K; first | (apply hK; clear hK K) | (clear hK K; apply hK; clear hK K)))))
      (try simp)
      exact .pure .bool
    · repeat' (first | ((first | refine Yl rfl fun K9 h9 => ?_ | (refine Ym ?_ ?_; (focus (simp; done)); intro K9 h9)); simp (disch := (first | (simp; done) | omega | (simp; omega))); (try simp (disch := (first | omega | (simp; omega))) only [X7, X8, X9, Xa, Xb, Xc]); ((first | refine acall_pure (a0) (by simp) ?_ | refine acall_pure (m1) (by simp) ?_ | refine acall_pure (m2) (by simp) ?_ | refine acall_pure (aw) (by simp) ?_ | skip) <;> ((repeat (refine Yz ?_)); (first | refine h9 _ _ (Yp ?_)); clear h9 K9))) | refine Yo ?_ | (refine Y8 fun K hK => ?_) | refine Yq ?_ | (apply hK; clear hK K) | (refine Yb rfl (fun hcnd => ?_) (fun hcnd => ?_) <;> (try simp at hcnd) <;> (try contradiction) <;> (try (exfalso; omega))) | refine Yc ?_ | (refine Ye ?_; refine Yf ?_) | (refine Yn ?_ ?_; (focus (simp; done)); refine Yp ?_) | refine Yg ?_ | (simp only [X0, X1, X2, X3, X4, X5, X6, Nat.reduceBEq]) | (clear hK K; first | (apply hK; clear hK K) | (clear hK K; first | (apply hK; clear hK K) | (clear hK K; first | (apply hK; clear hK K) | (clear hK K; apply hK; clear hK K)))))
      (try simp)
      exact .pure .bool
  · subst h2
    repeat' (first | ((first | refine Yl rfl fun K9 h9 => ?_ | (refine Ym ?_ ?_; (focus (simp [h0, h1, h3, h4]; done)); intro K9 h9)); simp (disch := (first | (simp; done) | omega | (simp; omega))) [h0, h1, h3, h4]; (try simp (disch := (first | omega | (simp; omega))) only [X7, X8, X9, Xa, Xb, Xc]); ((first | refine acall_pure (a0) (by simp) ?_ | refine acall_pure (m1) (by simp) ?_ | refine acall_pure (m2) (by simp) ?_ | refine acall_pure (aw) (by simp) ?_ | skip) <;> ((repeat (refine Yz ?_)); (first | refine h9 _ _ (Yp ?_)); clear h9 K9))) | refine Yo ?_ | (refine Y8 fun K hK => ?_) | refine Yq ?_ | (apply hK; clear hK K) | (refine Yb rfl (fun hcnd => ?_) (fun hcnd => ?_) <;> (try simp at hcnd) <;> (try contradiction) <;> (try (exfalso; omega))) | refine Yc ?_ | (refine Ye ?_; refine Yf ?_) | (refine Yn ?_ ?_; (focus (simp [h0, h1, h3, h4]; done)); refine Yp ?_) | refine Yg ?_ | (simp only [X0, X1, X2, X3, X4, X5, X6, Nat.reduceBEq]) | (clear hK K; first | (apply hK; clear hK K) | (clear hK K; first | (apply hK; clear hK K) | (clear hK K; first | (apply hK; clear hK K) | (clear hK K; apply hK; clear hK K)))))
    (try simp)
    exact .pure .bool
  · exact .bool
theorem scopeReasonsMeet_fits : ∀ xs, FitsAll Tryd.prog 8 Tryd.f6.params.toList xs → PCall Tryd.prog 6 xs (.bool true) := by
  intro xs h
  rw [show Tryd.f6.params.toList = [3] by kernel_rfl] at h
  obtain ⟨x1, xs, rfl, h1, h⟩ := fitsAll_cons h
  obtain rfl := fitsAll_nil h
  obtain ⟨n, hn, rfl⟩ := fits_int (by kernel_rfl) h1
  exact scopeReasonsMeet_call n hn

theorem scopePlain_call (l : List Int) (nm : Bool) (hl : l.length ≤ 140737488355328) (hr : ∀ k ∈ l, -9223372036854775808 ≤ k ∧ k ≤ 9223372036854775807) : PCall Tryd.prog 5 [.sl l.length (l.map (V.int .i64)), .bool nm] (.bool true) := by
  have aw := awake27_call
  have hg := gen_dc (l := l) ⟨hl, hr⟩
  have n1 : MCall Tryd.prog 18 [.ref 0 0, .int .i64 16] (dk l 0) (dk l (dkA l 0)) (.int .i64 (dkX l 0 16)) := next_call l 0 16 hl (by omega) (by omega) (by omega) hr
  have n2 : MCall Tryd.prog 18 [.ref 0 0, .int .i64 2] (dk l (dkA l 0)) (dk l (dkA l (dkA l 0))) (.int .i64 (dkX l (dkA l 0) 2)) := next_call l _ 2 hl (dkA_le (by omega)) (by omega) (by omega) hr
  have hq2 : dkA l (dkA l 0) ≤ l.length := dkA_le (dkA_le (by omega))
  have hb := dkX_bounds (l := l) (a := 0) (n := 16) (by omega)
  obtain ⟨k, hk, hk2⟩ : ∃ k : Nat, dkX l 0 16 = k ∧ k < 16 := ⟨(dkX l 0 16).toNat, by omega, by omega⟩
  rw [hk] at n1
  have au : PCall Tryd.prog 17 [.int .i64 k] (.agg [nmV (authN k)]) := auth_call k hk2
  have hself := nameB_self k hk2
  have hA := authN_w k
  generalize authN k = A0 at *
  generalize dkX l (dkA l 0) 2 = x2 at *
  generalize dkA l (dkA l 0) = b2 at *
  have hd1 := dk_pures l (dkA l 0)
  refine pcall_body Tryd.func5 rfl Tryd.call5 ?_ ?_
  rotate_left 1
  refine awp_slots (s' := [(.sl l.length (l.map (V.int .i64)) : V), (.bool nm : V), .junk, .junk, .junk, .junk, .junk, .junk, .junk, .junk, .junk, .junk, .junk, .junk, .junk, .junk, .junk, .junk, .junk, .junk, .junk, .junk, .junk, .junk, .junk, .junk, .junk, .junk, .junk, .junk, .junk, .junk, .junk, .junk, .junk]) rfl ?_
  refine awp_seq fun K hK => ?_
  repeat' (first | ((first | refine Y0 rfl fun K9 h9 => ?_ | refine Y1 rfl rfl fun K9 h9 => ?_ | refine Y2 rfl rfl fun K9 h9 => ?_ | (refine Y3 ?_ ?_; (focus (simp; done)); intro K9 h9) | ((first | refine Y4 rfl ?_ ?_ | refine Y5 rfl ?_ ?_); (focus (simp; done)); intro K9 h9)); simp (disch := (first | (simp; done) | omega | (simp; omega))); (try simp (disch := (first | omega | (simp; omega))) only [X7, X8, X9, Xa, Xb, Xc]); ((first | refine acall_new (deck_call l) (dk_pures _ _) (by simp) ?_ | refine acall_mutd n1 rfl (dk_pures _ _) (dk_pures _ _) .int (by simp) ?_ | refine acall_pure (au) (by simp) ?_ | skip) <;> ((repeat (refine Yz ?_)); (first | refine h9 _ _ (Ys ?_) | refine h9 _ _ (Yt ?_)); clear h9 K9))) | refine Y6 ?_ | refine Y7 ?_ | refine Y9 ?_ | ((first | refine Yk (m := 1) (by decide +kernel) [] (by kernel_rfl) (by decide +kernel) ?_); dsimp only [List.replicate, List.append_nil, List.cons_append, List.nil_append, List.length_cons, List.length_nil]) | (refine Yb rfl (fun hcnd => ?_) (fun hcnd => ?_) <;> (try simp at hcnd) <;> (try contradiction) <;> (try (exfalso; omega))) | refine Yc ?_ | (refine Ye ?_; refine Yf ?_) | (refine Yh ?_ ?_; (focus (simp; done)); refine Ys ?_) | ((first | refine Yi rfl ?_ ?_ | refine Yj rfl ?_ ?_); (focus (simp; done)); refine Yt ?_) | refine Yg ?_ | (simp only [X0, X1, X2, X3, X4, X5, X6, Nat.reduceBEq]))
  refine hK _ _ ?_; clear hK K
  refine awp_seq fun K hK => ?_
  repeat' (first | ((first | refine Y0 rfl fun K9 h9 => ?_ | refine Y1 rfl rfl fun K9 h9 => ?_ | refine Y2 rfl rfl fun K9 h9 => ?_ | (refine Y3 ?_ ?_; (focus (simp; done)); intro K9 h9) | ((first | refine Y4 rfl ?_ ?_ | refine Y5 rfl ?_ ?_); (focus (simp; done)); intro K9 h9)); simp (disch := (first | (simp; done) | omega | (simp; omega))); (try simp (disch := (first | omega | (simp; omega))) only [X7, X8, X9, Xa, Xb, Xc]); ((first | refine acall_new (deck_call l) (dk_pures _ _) (by simp) ?_ | refine acall_mutd n1 rfl (dk_pures _ _) (dk_pures _ _) .int (by simp) ?_ | refine acall_pure (au) (by simp) ?_ | skip) <;> ((repeat (refine Yz ?_)); (first | refine h9 _ _ (Ys ?_) | refine h9 _ _ (Yt ?_)); clear h9 K9))) | refine Y6 ?_ | refine Y7 ?_ | refine Y9 ?_ | ((first | refine Yk (m := 1) (by decide +kernel) [] (by kernel_rfl) (by decide +kernel) ?_); dsimp only [List.replicate, List.append_nil, List.cons_append, List.nil_append, List.length_cons, List.length_nil]) | (refine Yb rfl (fun hcnd => ?_) (fun hcnd => ?_) <;> (try simp at hcnd) <;> (try contradiction) <;> (try (exfalso; omega))) | refine Yc ?_ | (refine Ye ?_; refine Yf ?_) | (refine Yh ?_ ?_; (focus (simp; done)); refine Ys ?_) | ((first | refine Yi rfl ?_ ?_ | refine Yj rfl ?_ ?_); (focus (simp; done)); refine Yt ?_) | refine Yg ?_ | (simp only [X0, X1, X2, X3, X4, X5, X6, Nat.reduceBEq]))
  refine hK _ _ ?_; clear hK K
  refine awp_seq fun K hK => ?_
  repeat' (first | ((first | refine Y0 rfl fun K9 h9 => ?_ | refine Y1 rfl rfl fun K9 h9 => ?_ | refine Y2 rfl rfl fun K9 h9 => ?_ | (refine Y3 ?_ ?_; (focus (simp; done)); intro K9 h9) | ((first | refine Y4 rfl ?_ ?_ | refine Y5 rfl ?_ ?_); (focus (simp; done)); intro K9 h9)); simp (disch := (first | (simp; done) | omega | (simp; omega))); (try simp (disch := (first | omega | (simp; omega))) only [X7, X8, X9, Xa, Xb, Xc]); ((first | refine acall_new (deck_call l) (dk_pures _ _) (by simp) ?_ | refine acall_mutd n1 rfl (dk_pures _ _) (dk_pures _ _) .int (by simp) ?_ | refine acall_pure (au) (by simp) ?_ | skip) <;> ((repeat (refine Yz ?_)); (first | refine h9 _ _ (Ys ?_) | refine h9 _ _ (Yt ?_)); clear h9 K9))) | refine Y6 ?_ | refine Y7 ?_ | refine Y9 ?_ | ((first | refine Yk (m := 1) (by decide +kernel) [] (by kernel_rfl) (by decide +kernel) ?_); dsimp only [List.replicate, List.append_nil, List.cons_append, List.nil_append, List.length_cons, List.length_nil]) | (refine Yb rfl (fun hcnd => ?_) (fun hcnd => ?_) <;> (try simp at hcnd) <;> (try contradiction) <;> (try (exfalso; omega))) | refine Yc ?_ | (refine Ye ?_; refine Yf ?_) | (refine Yh ?_ ?_; (focus (simp; done)); refine Ys ?_) | ((first | refine Yi rfl ?_ ?_ | refine Yj rfl ?_ ?_); (focus (simp; done)); refine Yt ?_) | refine Yg ?_ | (simp only [X0, X1, X2, X3, X4, X5, X6, Nat.reduceBEq]))
  refine hK _ _ ?_; clear hK K
  refine awp_seqJ fun K0 hK0 hJ0 => ?_
  suffices hm0 : K0 ([.junk, .bool nm, .junk, .junk, .bool false, .ref 0 0, .ref 1 0, .ref 2 0, .junk, .junk, .junk, .junk, .junk, .junk, .junk, .junk, .junk, .junk, .junk, .junk, .junk, .junk, .junk, .junk, .junk, .junk, .junk, .junk, .junk, .junk, .junk, .junk, .junk, .junk, .junk]) [.live (dk l b2), .live [nmV A0], .live [.str [], .str [], .int .i64 0, nmV A0, .nils, .int .i64 0, .int .i64 0, .int .i64 0, .str [], .str [], .bool false, .bool (x2 == 1), .int .i64 0, .int .i64 0, .nils, .nils, .nils, .int .i64 0, .int .i64 0, .int .i64 0, .nils, .bool false, .nils, .nils, .str [], .str [], .nils, .nils, .nils, .str []]] by
    repeat' (first | ((first | refine Y0 rfl fun K9 h9 => ?_ | refine Y1 rfl rfl fun K9 h9 => ?_ | refine Y2 rfl rfl fun K9 h9 => ?_ | (refine Y3 ?_ ?_; (focus (simp; done)); intro K9 h9) | ((first | refine Y4 rfl ?_ ?_ | refine Y5 rfl ?_ ?_); (focus (simp; done)); intro K9 h9)); simp (disch := (first | (simp; done) | omega | (simp; omega))); (try simp (disch := (first | omega | (simp; omega))) only [X7, X8, X9, Xa, Xb, Xc]); ((first | refine acall_mutd n2 rfl (dk_pures _ _) (dk_pures _ _) .int (by simp) ?_ | skip) <;> ((repeat (refine Yz ?_)); (first | refine h9 _ _ (Ys ?_) | refine h9 _ _ (Yt ?_)); clear h9 K9))) | refine Y6 ?_ | refine Y7 ?_ | (first | (refine awp_region_any (by decide +kernel) ?_) | (refine aTree_end (by decide +kernel) ?_) | (refine aTree_one 0 _ (by decide +kernel) rfl ?_) | (refine aTree_one 1 _ (by decide +kernel) rfl ?_) | (refine aTree_one 2 _ (by decide +kernel) rfl ?_) | (refine aTree_one 3 _ (by decide +kernel) rfl ?_) | (refine aTree_one 4 _ (by decide +kernel) rfl ?_) | (refine aTree_one 5 _ (by decide +kernel) rfl ?_) | (refine aTree_one 6 _ (by decide +kernel) rfl ?_) | (refine aTree_one 7 _ (by decide +kernel) rfl ?_) | (refine aTree_two 0 1 _ _ (by decide +kernel) rfl rfl ?_ ?_) | (refine aTree_two 0 2 _ _ (by decide +kernel) rfl rfl ?_ ?_) | (refine aTree_two 0 3 _ _ (by decide +kernel) rfl rfl ?_ ?_) | (refine aTree_two 0 4 _ _ (by decide +kernel) rfl rfl ?_ ?_) | (refine aTree_two 0 5 _ _ (by decide +kernel) rfl rfl ?_ ?_) | (refine aTree_two 0 6 _ _ (by decide +kernel) rfl rfl ?_ ?_) | (refine aTree_two 0 7 _ _ (by decide +kernel) rfl rfl ?_ ?_) | (refine aTree_two 1 2 _ _ (by decide +kernel) rfl rfl ?_ ?_) | (refine aTree_two 1 3 _ _ (by decide +kernel) rfl rfl ?_ ?_) | (refine aTree_two 1 4 _ _ (by decide +kernel) rfl rfl ?_ ?_) | (refine aTree_two 1 5 _ _ (by decide +kernel) rfl rfl ?_ ?_) | (refine aTree_two 1 6 _ _ (by decide +kernel) rfl rfl ?_ ?_) | (refine aTree_two 1 7 _ _ (by decide +kernel) rfl rfl ?_ ?_) | (refine aTree_two 2 3 _ _ (by decide +kernel) rfl rfl ?_ ?_) | (refine aTree_two 2 4 _ _ (by decide +kernel) rfl rfl ?_ ?_) | (refine aTree_two 2 5 _ _ (by decide +kernel) rfl rfl ?_ ?_) | (refine aTree_two 2 6 _ _ (by decide +kernel) rfl rfl ?_ ?_) | (refine aTree_two 2 7 _ _ (by decide +kernel) rfl rfl ?_ ?_) | (refine aTree_two 3 4 _ _ (by decide +kernel) rfl rfl ?_ ?_) | (refine aTree_two 3 5 _ _ (by decide +kernel) rfl rfl ?_ ?_) | (refine aTree_two 3 6 _ _ (by decide +kernel) rfl rfl ?_ ?_) | (refine aTree_two 3 7 _ _ (by decide +kernel) rfl rfl ?_ ?_) | (refine aTree_two 4 5 _ _ (by decide +kernel) rfl rfl ?_ ?_) | (refine aTree_two 4 6 _ _ (by decide +kernel) rfl rfl ?_ ?_) | (refine aTree_two 4 7 _ _ (by decide +kernel) rfl rfl ?_ ?_) | (refine aTree_two 5 6 _ _ (by decide +kernel) rfl rfl ?_ ?_) | (refine aTree_two 5 7 _ _ (by decide +kernel) rfl rfl ?_ ?_) | (refine aTree_two 6 7 _ _ (by decide +kernel) rfl rfl ?_ ?_) | (refine aTree_three 0 1 6 _ _ _ (by decide +kernel) rfl rfl rfl ?_ ?_ ?_) | (refine aTree_three 0 2 6 _ _ _ (by decide +kernel) rfl rfl rfl ?_ ?_ ?_) | (refine aTree_three 0 3 6 _ _ _ (by decide +kernel) rfl rfl rfl ?_ ?_ ?_) | (refine aTree_three 0 4 6 _ _ _ (by decide +kernel) rfl rfl rfl ?_ ?_ ?_)) | (refine Y8 fun K hK => ?_) | refine Y9 ?_ | (apply hK; clear hK K) | ((first | refine Yk (m := 1) (by decide +kernel) [] (by kernel_rfl) (by decide +kernel) ?_); dsimp only [List.replicate, List.append_nil, List.cons_append, List.nil_append, List.length_cons, List.length_nil]) | (refine Yb rfl (fun hcnd => ?_) (fun hcnd => ?_) <;> (try simp at hcnd) <;> (try contradiction) <;> (try (exfalso; omega))) | refine Yc ?_ | (refine Ye ?_; refine Yf ?_) | (refine Yh ?_ ?_; (focus (simp; done)); refine Ys ?_) | ((first | refine Yi rfl ?_ ?_ | refine Yj rfl ?_ ?_); (focus (simp; done)); refine Yt ?_) | refine Yg ?_ | (simp only [X0, X1, X2, X3, X4, X5, X6, Nat.reduceBEq]) | (clear hK K; first | (apply hK; clear hK K) | (clear hK K; first | (apply hK; clear hK K) | (clear hK K; first | (apply hK; clear hK K) | (clear hK K; apply hK; clear hK K)))))
    all_goals (
      refine hJ0.le _ _ _ _ ?_ hm0
      exact Yr [some 0, some 1, some 2] (by simp [rowsOver, rowRen_live, rens_pures]))
  refine hK0 _ _ ?_
  clear hK0 hJ0
  clear K0
  refine awp_seqJ fun K1 hK1 hJ1 => ?_
  have main1 : ∀ (ps : List Pt) (q : Nat), (ps = [] ∨ ∃ g, WN g.name ∧ ps = [⟨[g], 0, false, []⟩]) → q ≤ l.length → K1 ([.junk, .junk, .junk, .junk, .junk, .junk, .ref 1 0, .ref 2 0, .junk, .junk, .junk, .junk, .junk, .junk, .junk, .junk, .junk, .junk, .junk, .junk, .junk, .junk, .junk, .junk, .junk, .junk, .junk, .junk, .junk, .junk, .junk, .junk, .junk, .junk, .junk]) [.live (dk l q), .live [nmV A0], .live [.str [], .str [], .int .i64 0, nmV A0, .sl 0 [], .int .i64 0, .int .i64 0, .int .i64 0, .str [], .str [], .bool false, .bool (x2 == 1), .int .i64 0, .int .i64 0, .sl 0 [], .sl 0 [], .sl 0 [], .int .i64 0, .int .i64 0, .int .i64 0, .sl 0 [], .bool false, .sl 0 [], .sl 0 [], .str [], .str [], ptsV ps, .sl 0 [], .sl 0 [], .str []]] := by
    intro ps q hps hq
    refine hK1 _ _ ?_
    clear hK1 hJ1
    clear K1
    have m1 : PCall Tryd.prog 15 [.agg [.str [], .str [], .int .i64 0, nmV A0, .sl 0 [], .int .i64 0, .int .i64 0, .int .i64 0, .str [], .str [], .bool false, .bool (x2 == 1), .int .i64 0, .int .i64 0, .sl 0 [], .sl 0 [], .sl 0 [], .int .i64 0, .int .i64 0, .int .i64 0, .sl 0 [], .bool false, .sl 0 [], .sl 0 [], .str [], .str [], ptsV ps, .sl 0 [], .sl 0 [], .str []], .agg [.str [], .str [], nmV A0, .int .i64 0, .int .i64 0, .int .i64 0, .int .i64 0, .str [], .bool false, .nils, .bool false, .bool false, .int .i64 0, .bool false, .nils, .nils, .str []]] _ := pcall_nza (smask_call' (cpl A0 (x2 == 1) ps) (lz A0 false false 0 0 0) hA (lz_w hA) (by rcases hps with rfl | ⟨g, hgn, rfl⟩ <;> simp [cpl]) (fun p hp => ⟨by
      rcases hps with rfl | ⟨g, hgn, rfl⟩
      · simp [cpl] at hp
      · simp [cpl] at hp
        subst hp
        exact ⟨⟨by simp, fun x hx => by simp at hx; subst hx; exact hgn⟩, by simp [WN]⟩, fun h => by simp [lz] at h⟩)) rfl
    rw [plain_mask hself (by rcases hps with h | ⟨g, -, h⟩; exact .inl h; exact .inr ⟨g, h⟩)] at m1
    repeat' (first | ((first | refine Y0 rfl fun K9 h9 => ?_ | refine Y1 rfl rfl fun K9 h9 => ?_ | refine Y2 rfl rfl fun K9 h9 => ?_ | (refine Y3 ?_ ?_; (focus (simp; done)); intro K9 h9) | ((first | refine Y4 rfl ?_ ?_ | refine Y5 rfl ?_ ?_); (focus (simp; done)); intro K9 h9)); simp (disch := (first | (simp; done) | omega | (simp; omega))); (try simp (disch := (first | omega | (simp; omega))) only [X7, X8, X9, Xa, Xb, Xc]); ((first | refine acall_pure (m1) (by simp) ?_ | refine acall_pure (aw) (by simp) ?_ | skip) <;> ((repeat (refine Yz ?_)); (first | refine h9 _ _ (Ys ?_) | refine h9 _ _ (Yt ?_)); clear h9 K9))) | refine Y6 ?_ | refine Y7 ?_ | (refine Y8 fun K hK => ?_) | refine Y9 ?_ | (apply hK; clear hK K) | ((first | refine Yk (m := 1) (by decide +kernel) [] (by kernel_rfl) (by decide +kernel) ?_); dsimp only [List.replicate, List.append_nil, List.cons_append, List.nil_append, List.length_cons, List.length_nil]) | (refine Yb rfl (fun hcnd => ?_) (fun hcnd => ?_) <;> (try simp at hcnd) <;> (try contradiction) <;> (try (exfalso; omega))) | refine Yc ?_ | (refine Ye ?_; refine Yf ?_) | (refine Yh ?_ ?_; (focus (simp; done)); refine Ys ?_) | ((first | refine Yi rfl ?_ ?_ | refine Yj rfl ?_ ?_); (focus (simp; done)); refine Yt ?_) | refine Yg ?_ | (simp only [X0, X1, X2, X3, X4, X5, X6, Nat.reduceBEq]) | (clear hK K; first | (apply hK; clear hK K) | (clear hK K; first | (apply hK; clear hK K) | (clear hK K; first | (apply hK; clear hK K) | (clear hK K; apply hK; clear hK K)))))
    (try simp)
    exact .pure .bool
  clear hK1
  cases nm
  · repeat' (first | ((first | refine Y0 rfl fun K9 h9 => ?_ | refine Y1 rfl rfl fun K9 h9 => ?_ | refine Y2 rfl rfl fun K9 h9 => ?_ | (refine Y3 ?_ ?_; (focus (simp; done)); intro K9 h9) | ((first | refine Y4 rfl ?_ ?_ | refine Y5 rfl ?_ ?_); (focus (simp; done)); intro K9 h9)); simp (disch := (first | (simp; done) | omega | (simp; omega))); (try simp (disch := (first | omega | (simp; omega))) only [X7, X8, X9, Xa, Xb, Xc]); ((repeat (refine Yz ?_)); (first | refine h9 _ _ (Ys ?_) | refine h9 _ _ (Yt ?_)); clear h9 K9)) | refine Y6 ?_ | refine Y7 ?_ | (refine Y8 fun K hK => ?_) | refine Y9 ?_ | (apply hK; clear hK K) | ((first | refine Yk (m := 1) (by decide +kernel) [] (by kernel_rfl) (by decide +kernel) ?_); dsimp only [List.replicate, List.append_nil, List.cons_append, List.nil_append, List.length_cons, List.length_nil]) | (refine Yb rfl (fun hcnd => ?_) (fun hcnd => ?_) <;> (try simp at hcnd) <;> (try contradiction) <;> (try (exfalso; omega))) | refine Yc ?_ | (refine Ye ?_; refine Yf ?_) | (refine Yh ?_ ?_; (focus (simp; done)); refine Ys ?_) | ((first | refine Yi rfl ?_ ?_ | refine Yj rfl ?_ ?_); (focus (simp; done)); refine Yt ?_) | refine Yg ?_ | (simp only [X0, X1, X2, X3, X4, X5, X6, Nat.reduceBEq]) | (clear hK K; first | (apply hK; clear hK K) | (clear hK K; first | (apply hK; clear hK K) | (clear hK K; first | (apply hK; clear hK K) | (clear hK K; apply hK; clear hK K)))))
    refine hJ1.nz (by simp only [List.map_cons, List.map_nil, nzRow, nz, dk_nz]; rfl) ?_
    refine hJ1.le _ _ _ _ ?_ (main1 [] b2 (.inl rfl) hq2)
    exact Yr [some 0, some 1, some 2] (by simp [rowsOver, rowRen_live, rens_pures, ptsV, nmV])
  · repeat' (first | ((first | refine Y0 rfl fun K9 h9 => ?_ | refine Y1 rfl rfl fun K9 h9 => ?_ | refine Y2 rfl rfl fun K9 h9 => ?_ | (refine Y3 ?_ ?_; (focus (simp; done)); intro K9 h9) | ((first | refine Y4 rfl ?_ ?_ | refine Y5 rfl ?_ ?_); (focus (simp; done)); intro K9 h9)); simp (disch := (first | (simp; done) | omega | (simp; omega))); (try simp (disch := (first | omega | (simp; omega))) only [X7, X8, X9, Xa, Xb, Xc]); ((first | (refine acall_dc hg rfl (by assumption) (by simp) (fun r q hq hQ hr => ?_); obtain ⟨g, hgw, rfl⟩ := hQ; clear hr; rw [Gn.c.eq_1]) | skip) <;> ((repeat (refine Yz ?_)); (first | refine h9 _ _ (Ys ?_) | refine h9 _ _ (Yt ?_)); clear h9 K9))) | refine Y6 ?_ | refine Y7 ?_ | (refine Y8 fun K hK => ?_) | refine Y9 ?_ | (apply hK; clear hK K) | ((first | refine Yk (m := 1) (by decide +kernel) [] (by kernel_rfl) (by decide +kernel) ?_); dsimp only [List.replicate, List.append_nil, List.cons_append, List.nil_append, List.length_cons, List.length_nil]) | (refine Yb rfl (fun hcnd => ?_) (fun hcnd => ?_) <;> (try simp at hcnd) <;> (try contradiction) <;> (try (exfalso; omega))) | refine Yc ?_ | (refine Ye ?_; refine Yf ?_) | (refine Yh ?_ ?_; (focus (simp; done)); refine Ys ?_) | ((first | refine Yi rfl ?_ ?_ | refine Yj rfl ?_ ?_); (focus (simp; done)); refine Yt ?_) | refine Yg ?_ | (simp only [X0, X1, X2, X3, X4, X5, X6, Nat.reduceBEq]) | (clear hK K; first | (apply hK; clear hK K) | (clear hK K; first | (apply hK; clear hK K) | (clear hK K; first | (apply hK; clear hK K) | (clear hK K; apply hK; clear hK K)))))
    refine hJ1.nz (by simp only [List.map_cons, List.map_nil, nzRow, nz, dk_nz]; rfl) ?_
    have hgv : ptsV [⟨[g], 0, false, []⟩] = .sl 1 [.sl 1 [.int .i64 g.kind, .str g.text, nmV g.name], .int .i64 0, .bool false, .sl 0 []] := rfl
    refine hJ1.fz 3 (rows' := [.live (dk l q), .live [nmV A0], .live [.str [], .str [], .int .i64 0, nmV A0, .sl 0 [], .int .i64 0, .int .i64 0, .int .i64 0, .str [], .str [], .bool false, .bool (x2 == 1), .int .i64 0, .int .i64 0, .sl 0 [], .sl 0 [], .sl 0 [], .int .i64 0, .int .i64 0, .int .i64 0, .sl 0 [], .bool false, .sl 0 [], .sl 0 [], .str [], .str [], .osl 4 0 1 4, .sl 0 [], .sl 0 [], .str []], .dead, .live [.sl 1 [.int .i64 g.kind, .str g.text, nmV g.name], .int .i64 0, .bool false, .sl 0 []]]) rfl (by simp) (by simp [fz]; rfl) rfl ?_
    refine hJ1.fz 4 (rows' := [.live (dk l q), .live [nmV A0], .live [.str [], .str [], .int .i64 0, nmV A0, .sl 0 [], .int .i64 0, .int .i64 0, .int .i64 0, .str [], .str [], .bool false, .bool (x2 == 1), .int .i64 0, .int .i64 0, .sl 0 [], .sl 0 [], .sl 0 [], .int .i64 0, .int .i64 0, .int .i64 0, .sl 0 [], .bool false, .sl 0 [], .sl 0 [], .str [], .str [], .sl 1 [.sl 1 [.int .i64 g.kind, .str g.text, nmV g.name], .int .i64 0, .bool false, .sl 0 []], .sl 0 [], .sl 0 [], .str []], .dead, .dead]) rfl (by simp) (by simp [fz]; rfl) rfl ?_
    refine hJ1.le _ _ _ _ ?_ (main1 [⟨[g], 0, false, []⟩] q (.inr ⟨g, hgw, rfl⟩) hq)
    exact Yr [some 0, some 1, some 2] (by simp [rowsOver, rowRen_live, rens_pures, hgv, nmV])
  · exact .bool
theorem scopePlain_fits : ∀ xs, FitsAll Tryd.prog 8 Tryd.f5.params.toList xs → PCall Tryd.prog 5 xs (.bool true) := by
  intro xs h
  rw [show Tryd.f5.params.toList = [22, 4] by kernel_rfl] at h
  obtain ⟨x1, xs, rfl, h1, h⟩ := fitsAll_cons h
  obtain ⟨x2, xs, rfl, h2, h⟩ := fitsAll_cons h
  obtain rfl := fitsAll_nil h
  obtain ⟨l, hl, hr, rfl⟩ := fits_ints (e := 3) (by kernel_rfl) (by kernel_rfl) h1
  obtain ⟨b, rfl⟩ := fits_bool (by kernel_rfl) h2
  exact scopePlain_call l b hl hr
end Go.Proofs.YtbdfghlkkdkpgaaDoor

