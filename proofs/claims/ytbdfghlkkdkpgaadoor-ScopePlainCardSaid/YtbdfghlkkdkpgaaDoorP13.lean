/-
  SCOPE: the examples of the chapter.
  Conditions: none.
-/
import Derived.Test.YtbdfghlkkdkpgaaDoorGe
import Derived.Test.YtbdfghlkkdkpgaaDoorGf
import Derived.Test.YtbdfghlkkdkpgaaDoorP1
import Derived.Test.YtbdfghlkkdkpgaaDoorP2
import Derived.Test.YtbdfghlkkdkpgaaDoorP3
import Derived.Test.YtbdfghlkkdkpgaaDoorP4
import Derived.Test.YtbdfghlkkdkpgaaDoorP7
import Derived.Test.YtbdfghlkkdkpgaaDoorP8
import Derived.Test.YtbdfghlkkdkpgaaDoorP10
import Derived.Test.YtbdfghlkkdkpgaaDoorP11
import Derived.Test.YtbdfghlkkdkpgaaDoorP12
import Derived.Test.YtbdfghlkkdkpgaaDoorGj
import Derived.Test.YtbdfghlkkdkpgaaDoorGl
import Derived.Test.YtbdfghlkkdkpgaaDoorQ6
import Derived.Test.YtbdfghlkkdkpgaaDoorQ16
import Derived.Test.YtbdfghlkkdkpgaaDoorQ17
import Derived.Test.YtbdfghlkkdkpgaaDoorQ18
import Derived.Test.YtbdfghlkkdkpgaaDoorQ25
import Derived.Test.YtbdfghlkkdkpgaaDoorQ26
import Derived.Test.YtbdfghlkkdkpgaaDoorQ27
import Derived.Test.YtbdfghlkkdkpgaaDoorQ28
import Derived.Test.YtbdfghlkkdkpgaaDoorTab
import Derived.Test.YtbdfghlkkdkpgaaDoorGd
import Derived.Test.YtbdfghlkkdkpgaaDoorGi
import Derived.Test.YtbdfghlkkdkpgaaDoorVs31
import Derived.Test.YtbdfghlkkdkpgaaDoorVs33
import Derived.Test.YtbdfghlkkdkpgaaDoorVs34
import Derived.Test.YtbdfghlkkdkpgaaDoorVs35
import Derived.Test.YtbdfghlkkdkpgaaDoorVs36
import Derived.Test.YtbdfghlkkdkpgaaDoorVs37
set_option linter.all false
namespace Go.Stp
open Go.VS
def lz (n : Nm) (has ou : Bool) (r : Int) (t u : Int) : Li := ⟨[], [], n, t, u, 0, 0, [], has, ⟨[], ou, false, r, false⟩, [], [], []⟩
theorem lz_w {n : Nm} {has ou : Bool} {r t u : Int} (h : WN n) : WLk (lz n has ou r t u) := ⟨h, fun x hx => by simp [lz] at hx, by simp [lz]⟩
theorem aw1 : coversS (c0s 0 (authN 0) true) pt0 (lz (authN 8) false false 0 0 0) = (510, 0) := by decide +kernel
theorem aw2 : coversS (c0s 0 (authN 0) true) pt0 (lz (authN 0) true true 0 0 0) = (0, 29) := by decide +kernel
theorem aw3 : coversS (c0s 0 (authN 0) true) ⟨[], 0, true, authN 2⟩ (lz (authN 2) false false 0 0 0) = (0, 29) := by decide +kernel
theorem pt0s_w (n : Nm) (h : WN n) : WPk ⟨[], 0, true, n⟩ := ⟨fun x hx => by simp at hx, by simp, h⟩
end Go.Stp
namespace Go.Proofs.YtbdfghlkkdkpgaaDoor
open Go.VS Go.Stp
set_option linter.all false
set_option maxRecDepth 100000
set_option maxHeartbeats 16000000
attribute [local irreducible] arun arunD arunU AWp aend bits
theorem awake27_call : PCall Tryd.prog 14 [] (.bool true) := by
  have a0 : PCall Tryd.prog 17 [.int .i64 0] (.agg [nmV (authN 0)]) := auth_call 0 (by omega)
  have a2 : PCall Tryd.prog 17 [.int .i64 2] (.agg [nmV (authN 2)]) := auth_call 2 (by omega)
  have a8 : PCall Tryd.prog 17 [.int .i64 8] (.agg [nmV (authN 8)]) := auth_call 8 (by omega)
  have c1 : PCall Tryd.prog 12 [.agg [.str [], .str [], .int .i64 0, nmV (authN 0), .nils, .int .i64 0, .int .i64 0, .int .i64 0, .str [], .str [], .bool false, .bool true, .int .i64 0, .int .i64 0, .nils, .nils, .nils, .int .i64 0, .int .i64 0, .int .i64 0, .nils, .bool false, .nils, .nils, .str [], .str [], .nils, .nils, .nils, .str []], .agg [.nils, .int .i64 0, .bool false, .nils], .agg [.str [], .str [], nmV (authN 8), .int .i64 0, .int .i64 0, .int .i64 0, .int .i64 0, .str [], .bool false, .nils, .bool false, .bool false, .int .i64 0, .bool false, .nils, .nils, .str []]] (covV (coversS (c0s 0 (authN 0) true) pt0 (lz (authN 8) false false 0 0 0))) := pcall_nza (covers_call (c0s 0 (authN 0) true) pt0 (lz (authN 8) false false 0 0 0) (authN_w _) wpk0 (lz_w (authN_w _))) rfl
  have c2 : PCall Tryd.prog 12 [.agg [.str [], .str [], .int .i64 0, nmV (authN 0), .nils, .int .i64 0, .int .i64 0, .int .i64 0, .str [], .str [], .bool false, .bool true, .int .i64 0, .int .i64 0, .nils, .nils, .nils, .int .i64 0, .int .i64 0, .int .i64 0, .nils, .bool false, .nils, .nils, .str [], .str [], .nils, .nils, .nils, .str []], .agg [.nils, .int .i64 0, .bool false, .nils], .agg [.str [], .str [], nmV (authN 0), .int .i64 0, .int .i64 0, .int .i64 0, .int .i64 0, .str [], .bool true, .nils, .bool true, .bool false, .int .i64 0, .bool false, .nils, .nils, .str []]] (covV (coversS (c0s 0 (authN 0) true) pt0 (lz (authN 0) true true 0 0 0))) := pcall_nza (covers_call (c0s 0 (authN 0) true) pt0 (lz (authN 0) true true 0 0 0) (authN_w _) wpk0 (lz_w (authN_w _))) rfl
  have c3 : PCall Tryd.prog 12 [.agg [.str [], .str [], .int .i64 0, nmV (authN 0), .nils, .int .i64 0, .int .i64 0, .int .i64 0, .str [], .str [], .bool false, .bool true, .int .i64 0, .int .i64 0, .nils, .nils, .nils, .int .i64 0, .int .i64 0, .int .i64 0, .nils, .bool false, .nils, .nils, .str [], .str [], .nils, .nils, .nils, .str []], .agg [.nils, .int .i64 0, .bool true, nmV (authN 2)], .agg [.str [], .str [], nmV (authN 2), .int .i64 0, .int .i64 0, .int .i64 0, .int .i64 0, .str [], .bool false, .nils, .bool false, .bool false, .int .i64 0, .bool false, .nils, .nils, .str []]] (covV (coversS (c0s 0 (authN 0) true) ⟨[], 0, true, authN 2⟩ (lz (authN 2) false false 0 0 0))) := pcall_nza (covers_call (c0s 0 (authN 0) true) ⟨[], 0, true, authN 2⟩ (lz (authN 2) false false 0 0 0) (authN_w _) (pt0s_w _ (authN_w _)) (lz_w (authN_w _))) rfl
  have hp : PCall Tryd.prog 10 [.agg [.str [], .str [], .int .i64 0, nmV (authN 0), .nils, .int .i64 0, .int .i64 0, .int .i64 0, .str [], .str [], .bool false, .bool true, .int .i64 0, .int .i64 0, .nils, .nils, .nils, .int .i64 0, .int .i64 0, .int .i64 0, .nils, .bool false, .nils, .nils, .str [], .str [], .nils, .nils, .nils, .str []]] (ptsV (ptsOf [])) := pcall_nza (spoints_call (c0s 0 (authN 0) true) (by simp [c0s]) (fun p hp => by simp [c0s] at hp)) rfl
  have hcu : PCall Tryd.prog 33 [.agg [.str [], .str [], .nils, .int .i64 3, .int .i64 4, .int .i64 0, .int .i64 0, .str [], .bool false, .nils, .bool false, .bool false, .int .i64 0, .bool false, .nils, .nils, .str []], .int .i64 4] (.bool (currentB (lz [] false false 0 3 4) 4)) := pcall_nza (current_call (lz [] false false 0 3 4) 4) rfl
  rw [aw1] at c1
  rw [aw2] at c2
  rw [aw3] at c3
  rw [show currentB (lz [] false false 0 3 4) 4 = true from by decide] at hcu
  rw [show ptsV (ptsOf []) = .sl 1 [.sl 0 [], .int .i64 0, .bool false, .sl 0 []] from rfl] at hp
  unfold covV at c1 c2 c3
  generalize authN 0 = A0 at *
  generalize authN 2 = A2 at *
  generalize authN 8 = A8 at *
  refine pcall_body Tryd.func14 rfl Tryd.call14 ?_ ?_
  rotate_left 1
  refine awp_slots (s' := (V.junk :: V.junk :: V.junk :: V.junk :: V.junk :: V.junk :: V.junk :: V.junk :: V.junk :: V.junk :: V.junk :: V.junk :: V.junk :: V.junk :: V.junk :: V.junk :: V.junk :: V.junk :: V.junk :: V.junk :: V.junk :: V.junk :: V.junk :: V.junk :: V.junk :: V.junk :: V.junk :: V.junk :: V.junk :: V.junk :: V.junk :: V.junk :: V.junk :: V.junk :: V.junk :: V.junk :: V.junk :: V.junk :: V.junk :: V.junk :: V.junk :: V.junk :: V.junk :: V.junk :: V.junk :: V.junk :: V.junk :: V.junk :: V.junk :: V.junk :: V.junk :: V.junk :: V.junk :: V.junk :: V.junk :: V.junk :: V.junk :: V.junk :: V.junk :: V.junk :: V.junk :: V.junk :: V.junk :: V.junk :: V.junk :: [])) rfl ?_
  repeat' (first | ((first | refine Y0 rfl fun K9 h9 => ?_ | refine Y1 rfl rfl fun K9 h9 => ?_ | refine Y2 rfl rfl fun K9 h9 => ?_ | (refine Y3 ?_ ?_; (focus (simp; done)); intro K9 h9) | ((first | refine Y4 rfl ?_ ?_ | refine Y5 rfl ?_ ?_); (focus (simp; done)); intro K9 h9)); simp (disch := (first | (simp; done) | omega | (simp; omega))); (try simp (disch := (first | omega | (simp; omega))) only [X7, X8, X9, Xa, Xb, Xc]); ((first | refine acall_pure (a0) (by simp) ?_ | refine acall_pure (a2) (by simp) ?_ | refine acall_pure (a8) (by simp) ?_ | refine acall_pure (c1) (by simp) ?_ | refine acall_pure (c2) (by simp) ?_ | refine acall_pure (c3) (by simp) ?_ | refine acall_pure (hp) (by simp) ?_ | refine acall_pure (hcu) (by simp) ?_ | refine ⟨_, a8, ?_⟩ | refine ⟨_, c1, ?_⟩ | skip) <;> ((repeat (refine Yz ?_)); (first | refine h9 _ _ (Ys ?_) | refine h9 _ _ (Yt ?_)); clear h9 K9))) | refine Y6 ?_ | refine Y7 ?_ | (refine Y8 fun K hK => ?_) | refine Y9 ?_ | (apply hK; clear hK K) | ((first | refine Yk (m := 0) (by decide +kernel) [0,0,0,0,1,0,0,0,0,0] (by kernel_rfl) (by decide +kernel) ?_ | refine Yk (m := 0) (by decide +kernel) [] (by kernel_rfl) (by decide +kernel) ?_); dsimp only [List.replicate, List.append_nil, List.cons_append, List.nil_append, List.length_cons, List.length_nil]) | (refine Ye ?_; refine Yf ?_) | (refine Yh ?_ ?_; (focus (simp; done)); refine Ys ?_) | ((first | refine Yi rfl ?_ ?_ | refine Yj rfl ?_ ?_); (focus (simp; done)); refine Yt ?_) | refine Yg ?_ | (simp only [X0, X1, X2, X3, X4, X5, X6, Nat.reduceBEq]) | (clear hK K; first | (apply hK; clear hK K) | (clear hK K; first | (apply hK; clear hK K) | (clear hK K; first | (apply hK; clear hK K) | (clear hK K; apply hK; clear hK K)))))
  · (try simp)
    exact .pure .bool
  · exact .bool
end Go.Proofs.YtbdfghlkkdkpgaaDoor

