/-
  SCOPE: lists that extend one another.
  Conditions: none.
-/
import Derived.Test.YtbdfghlkkdkpgaaDoorGe
import Derived.Test.YtbdfghlkkdkpgaaDoorGf
import Derived.Test.YtbdfghlkkdkpgaaDoorP1
import Derived.Test.YtbdfghlkkdkpgaaDoorP2
import Derived.Test.YtbdfghlkkdkpgaaDoorP3
import Derived.Test.YtbdfghlkkdkpgaaDoorP4
import Derived.Test.YtbdfghlkkdkpgaaDoorP5
import Derived.Test.YtbdfghlkkdkpgaaDoorP8
import Derived.Test.YtbdfghlkkdkpgaaDoorP9
import Derived.Test.YtbdfghlkkdkpgaaDoorGj
import Derived.Test.YtbdfghlkkdkpgaaDoorGl
import Derived.Test.YtbdfghlkkdkpgaaDoorQ6
import Derived.Test.YtbdfghlkkdkpgaaDoorQ7
import Derived.Test.YtbdfghlkkdkpgaaDoorQ25
import Derived.Test.YtbdfghlkkdkpgaaDoorQ26
import Derived.Test.YtbdfghlkkdkpgaaDoorQ27
import Derived.Test.YtbdfghlkkdkpgaaDoorTab
import Derived.Test.YtbdfghlkkdkpgaaDoorGd
import Derived.Test.YtbdfghlkkdkpgaaDoorGi
import Derived.Test.YtbdfghlkkdkpgaaDoorVs31
import Derived.Test.YtbdfghlkkdkpgaaDoorVs33
import Derived.Test.YtbdfghlkkdkpgaaDoorVs34
import Derived.Test.YtbdfghlkkdkpgaaDoorVs35
set_option linter.all false
namespace Go.Proofs.YtbdfghlkkdkpgaaDoor
open Go.VS Go.Stp
set_option linter.all false
set_option maxRecDepth 100000
set_option maxHeartbeats 16000000
attribute [local irreducible] arun arunD arunU AWp aend bits
theorem ext_call (a b : Li) (ha : WLk a) (hb : WLk b) : PCall Tryd.prog 21 [.agg a.c, .agg b.c] (.bool (extB a b)) := by
  have h1 := dmatch_call a.issuer b.issuer ha.issuer hb.issuer
  have h2 := same_sc_call a b ha hb
  have hsp : extB a b = (decide (a.base = -1) && (!decide (b.base = -1)) && nameB a.issuer b.issuer && sameSc a b && decide (a.ak = b.ak) && decide (b.base ≤ a.number) && decide (a.number < b.number)) := rfl
  rw [hsp]
  rw [Li.c.eq_1, Li.c.eq_1] at *
  generalize nameB a.issuer b.issuer = m at *
  generalize sameSc a b = s at *
  generalize a.base = ab at *
  generalize b.base = bb at *
  generalize a.ak = ax at *
  generalize b.ak = bx at *
  refine pcall_body Tryd.func21 rfl Tryd.call21 ?_ ?_
  rotate_left 1
  refine awp_slots (s' := [(.agg [.str a.raw, .str a.tbs, nmV a.issuer, .int .i64 a.this, .int .i64 a.next, .int .i64 a.number, .int .i64 ab, .str ax, .bool a.has, gnsV a.sc.names, .bool a.sc.ou, .bool a.sc.oc, .int .i64 a.sc.reasons, .bool a.sc.ind, ptsV a.fresh, ensV a.entries, .str a.sig] : V), (.agg [.str b.raw, .str b.tbs, nmV b.issuer, .int .i64 b.this, .int .i64 b.next, .int .i64 b.number, .int .i64 bb, .str bx, .bool b.has, gnsV b.sc.names, .bool b.sc.ou, .bool b.sc.oc, .int .i64 b.sc.reasons, .bool b.sc.ind, ptsV b.fresh, ensV b.entries, .str b.sig] : V), .junk, .junk, .junk, .junk, .junk, .junk, .junk, .junk, .junk, .junk, .junk, .junk, .junk, .junk, .junk, .junk, .junk, .junk, .junk, .junk, .junk, .junk, .junk, .junk, .junk, .junk, .junk, .junk, .junk, .junk, .junk, .junk, .junk, .junk, .junk, .junk, .junk, .junk, .junk, .junk, .junk, .junk, .junk, .junk]) rfl ?_
  by_cases g1 : ab = -1
  · subst g1
    by_cases g2 : bb = -1
    · subst g2
      repeat' (first | ((first | refine Yl rfl fun K9 h9 => ?_ | (refine Ym ?_ ?_; (focus (simp; done)); intro K9 h9)); simp (disch := (first | (simp; done) | omega | (simp; omega))); (try simp (disch := (first | omega | (simp; omega))) only [X7, X8, X9, Xa, Xb, Xc]); ((repeat (refine Yz ?_)); (first | refine h9 _ _ (Yp ?_)); clear h9 K9)) | refine Yo ?_ | (refine Y8 fun K hK => ?_) | refine Yq ?_ | (apply hK; clear hK K) | (refine Ye ?_; refine Yf ?_) | (refine Yn ?_ ?_; (focus (simp; done)); refine Yp ?_) | refine Yg ?_ | (simp only [X0, X1, X2, X3, X4, X5, X6, Nat.reduceBEq]) | (clear hK K; first | (apply hK; clear hK K) | (clear hK K; first | (apply hK; clear hK K) | (clear hK K; first | (apply hK; clear hK K) | (clear hK K; apply hK; clear hK K)))))
      (try simp)
      exact .pure .bool
    · cases m
      · repeat' (first | ((first | refine Yl rfl fun K9 h9 => ?_ | (refine Ym ?_ ?_; (focus (simp [g2]; done)); intro K9 h9)); simp (disch := (first | (simp; done) | omega | (simp; omega))) [g2]; (try simp (disch := (first | omega | (simp; omega))) only [X7, X8, X9, Xa, Xb, Xc]); ((first | refine acall_pure (h1) (by simp) ?_ | skip) <;> ((repeat (refine Yz ?_)); (first | refine h9 _ _ (Yp ?_)); clear h9 K9))) | refine Yo ?_ | (refine Y8 fun K hK => ?_) | refine Yq ?_ | (apply hK; clear hK K) | (refine Ye ?_; refine Yf ?_) | (refine Yn ?_ ?_; (focus (simp [g2]; done)); refine Yp ?_) | refine Yg ?_ | (simp only [X0, X1, X2, X3, X4, X5, X6, Nat.reduceBEq]) | (clear hK K; first | (apply hK; clear hK K) | (clear hK K; first | (apply hK; clear hK K) | (clear hK K; first | (apply hK; clear hK K) | (clear hK K; apply hK; clear hK K)))))
        (try simp)
        exact .pure .bool
      · cases s
        · repeat' (first | ((first | refine Yl rfl fun K9 h9 => ?_ | (refine Ym ?_ ?_; (focus (simp [g2]; done)); intro K9 h9)); simp (disch := (first | (simp; done) | omega | (simp; omega))) [g2]; (try simp (disch := (first | omega | (simp; omega))) only [X7, X8, X9, Xa, Xb, Xc]); ((first | refine acall_pure (h1) (by simp) ?_ | refine acall_pure (h2) (by simp) ?_ | skip) <;> ((repeat (refine Yz ?_)); (first | refine h9 _ _ (Yp ?_)); clear h9 K9))) | refine Yo ?_ | (refine Y8 fun K hK => ?_) | refine Yq ?_ | (apply hK; clear hK K) | (refine Ye ?_; refine Yf ?_) | (refine Yn ?_ ?_; (focus (simp [g2]; done)); refine Yp ?_) | refine Yg ?_ | (simp only [X0, X1, X2, X3, X4, X5, X6, Nat.reduceBEq]) | (clear hK K; first | (apply hK; clear hK K) | (clear hK K; first | (apply hK; clear hK K) | (clear hK K; first | (apply hK; clear hK K) | (clear hK K; apply hK; clear hK K)))))
          (try simp)
          exact .pure .bool
        · by_cases g3 : ax = bx
          · subst g3
            by_cases g4 : bb ≤ a.number
            · repeat' (first | ((first | refine Yl rfl fun K9 h9 => ?_ | (refine Ym ?_ ?_; (focus (simp [g2, g4]; done)); intro K9 h9)); simp (disch := (first | (simp; done) | omega | (simp; omega))) [g2, g4]; (try simp (disch := (first | omega | (simp; omega))) only [X7, X8, X9, Xa, Xb, Xc]); ((first | refine acall_pure (h1) (by simp) ?_ | refine acall_pure (h2) (by simp) ?_ | skip) <;> ((repeat (refine Yz ?_)); (first | refine h9 _ _ (Yp ?_)); clear h9 K9))) | refine Yo ?_ | (refine Y8 fun K hK => ?_) | refine Yq ?_ | (apply hK; clear hK K) | (refine Ye ?_; refine Yf ?_) | (refine Yn ?_ ?_; (focus (simp [g2, g4]; done)); refine Yp ?_) | refine Yg ?_ | (simp only [X0, X1, X2, X3, X4, X5, X6, Nat.reduceBEq]) | (clear hK K; first | (apply hK; clear hK K) | (clear hK K; first | (apply hK; clear hK K) | (clear hK K; first | (apply hK; clear hK K) | (clear hK K; apply hK; clear hK K)))))
              (try simp [g2, g4])
              exact .pure .bool
            · repeat' (first | ((first | refine Yl rfl fun K9 h9 => ?_ | (refine Ym ?_ ?_; (focus (simp [g2, g4]; done)); intro K9 h9)); simp (disch := (first | (simp; done) | omega | (simp; omega))) [g2, g4]; (try simp (disch := (first | omega | (simp; omega))) only [X7, X8, X9, Xa, Xb, Xc]); ((first | refine acall_pure (h1) (by simp) ?_ | refine acall_pure (h2) (by simp) ?_ | skip) <;> ((repeat (refine Yz ?_)); (first | refine h9 _ _ (Yp ?_)); clear h9 K9))) | refine Yo ?_ | (refine Y8 fun K hK => ?_) | refine Yq ?_ | (apply hK; clear hK K) | (refine Ye ?_; refine Yf ?_) | (refine Yn ?_ ?_; (focus (simp [g2, g4]; done)); refine Yp ?_) | refine Yg ?_ | (simp only [X0, X1, X2, X3, X4, X5, X6, Nat.reduceBEq]) | (clear hK K; first | (apply hK; clear hK K) | (clear hK K; first | (apply hK; clear hK K) | (clear hK K; first | (apply hK; clear hK K) | (clear hK K; apply hK; clear hK K)))))
              (try simp [g4])
              exact .pure .bool
          · repeat' (first | ((first | refine Yl rfl fun K9 h9 => ?_ | (refine Ym ?_ ?_; (focus (simp [g2, g3]; done)); intro K9 h9)); simp (disch := (first | (simp; done) | omega | (simp; omega))) [g2, g3]; (try simp (disch := (first | omega | (simp; omega))) only [X7, X8, X9, Xa, Xb, Xc]); ((first | refine acall_pure (h1) (by simp) ?_ | refine acall_pure (h2) (by simp) ?_ | skip) <;> ((repeat (refine Yz ?_)); (first | refine h9 _ _ (Yp ?_)); clear h9 K9))) | refine Yo ?_ | (refine Y8 fun K hK => ?_) | refine Yq ?_ | (apply hK; clear hK K) | (refine Ye ?_; refine Yf ?_) | (refine Yn ?_ ?_; (focus (simp [g2, g3]; done)); refine Yp ?_) | refine Yg ?_ | (simp only [X0, X1, X2, X3, X4, X5, X6, Nat.reduceBEq]) | (clear hK K; first | (apply hK; clear hK K) | (clear hK K; first | (apply hK; clear hK K) | (clear hK K; first | (apply hK; clear hK K) | (clear hK K; apply hK; clear hK K)))))
            (try simp [g3])
            exact .pure .bool
  · repeat' (first | ((first | refine Yl rfl fun K9 h9 => ?_ | (refine Ym ?_ ?_; (focus (simp [g1]; done)); intro K9 h9)); simp (disch := (first | (simp; done) | omega | (simp; omega))) [g1]; (try simp (disch := (first | omega | (simp; omega))) only [X7, X8, X9, Xa, Xb, Xc]); ((repeat (refine Yz ?_)); (first | refine h9 _ _ (Yp ?_)); clear h9 K9)) | refine Yo ?_ | (refine Y8 fun K hK => ?_) | refine Yq ?_ | (apply hK; clear hK K) | (refine Ye ?_; refine Yf ?_) | (refine Yn ?_ ?_; (focus (simp [g1]; done)); refine Yp ?_) | refine Yg ?_ | (simp only [X0, X1, X2, X3, X4, X5, X6, Nat.reduceBEq]) | (clear hK K; first | (apply hK; clear hK K) | (clear hK K; first | (apply hK; clear hK K) | (clear hK K; first | (apply hK; clear hK K) | (clear hK K; apply hK; clear hK K)))))
    (try simp [g1])
    exact .pure .bool
  · exact .bool

theorem rext_call (a b : Li) (ha : WLk a) (hb : WLk b) : PCall Tryd.prog 22 [.agg a.c, .agg b.c] (.bool (extB a b)) := by
  have h1 := rmatch_call a.issuer b.issuer ha.issuer hb.issuer
  have h2 := rsame_sc_call a b ha hb
  have hsp : extB a b = (decide (a.base = -1) && (!decide (b.base = -1)) && nameB a.issuer b.issuer && sameSc a b && decide (a.ak = b.ak) && decide (b.base ≤ a.number) && decide (a.number < b.number)) := rfl
  rw [hsp]
  rw [Li.c.eq_1, Li.c.eq_1] at *
  generalize nameB a.issuer b.issuer = m at *
  generalize sameSc a b = s at *
  generalize a.base = ab at *
  generalize b.base = bb at *
  generalize a.ak = ax at *
  generalize b.ak = bx at *
  refine pcall_body Tryd.func22 rfl Tryd.call22 ?_ ?_
  rotate_left 1
  refine awp_slots (s' := [(.agg [.str a.raw, .str a.tbs, nmV a.issuer, .int .i64 a.this, .int .i64 a.next, .int .i64 a.number, .int .i64 ab, .str ax, .bool a.has, gnsV a.sc.names, .bool a.sc.ou, .bool a.sc.oc, .int .i64 a.sc.reasons, .bool a.sc.ind, ptsV a.fresh, ensV a.entries, .str a.sig] : V), (.agg [.str b.raw, .str b.tbs, nmV b.issuer, .int .i64 b.this, .int .i64 b.next, .int .i64 b.number, .int .i64 bb, .str bx, .bool b.has, gnsV b.sc.names, .bool b.sc.ou, .bool b.sc.oc, .int .i64 b.sc.reasons, .bool b.sc.ind, ptsV b.fresh, ensV b.entries, .str b.sig] : V), .junk, .junk, .junk, .junk, .junk, .junk, .junk, .junk, .junk, .junk, .junk, .junk, .junk, .junk, .junk, .junk, .junk, .junk, .junk, .junk, .junk, .junk, .junk, .junk, .junk, .junk, .junk, .junk, .junk, .junk, .junk, .junk, .junk, .junk, .junk, .junk, .junk, .junk, .junk, .junk, .junk, .junk, .junk, .junk]) rfl ?_
  by_cases g1 : ab = -1
  · subst g1
    by_cases g2 : bb = -1
    · subst g2
      repeat' (first | ((first | refine Yl rfl fun K9 h9 => ?_ | (refine Ym ?_ ?_; (focus (simp; done)); intro K9 h9)); simp (disch := (first | (simp; done) | omega | (simp; omega))); (try simp (disch := (first | omega | (simp; omega))) only [X7, X8, X9, Xa, Xb, Xc]); ((repeat (refine Yz ?_)); (first | refine h9 _ _ (Yp ?_)); clear h9 K9)) | refine Yo ?_ | (refine Y8 fun K hK => ?_) | refine Yq ?_ | (apply hK; clear hK K) | (refine Ye ?_; refine Yf ?_) | (refine Yn ?_ ?_; (focus (simp; done)); refine Yp ?_) | refine Yg ?_ | (simp only [X0, X1, X2, X3, X4, X5, X6, Nat.reduceBEq]) | (clear hK K; first | (apply hK; clear hK K) | (clear hK K; first | (apply hK; clear hK K) | (clear hK K; first | (apply hK; clear hK K) | (clear hK K; apply hK; clear hK K)))))
      (try simp)
      exact .pure .bool
    · cases m
      · repeat' (first | ((first | refine Yl rfl fun K9 h9 => ?_ | (refine Ym ?_ ?_; (focus (simp [g2]; done)); intro K9 h9)); simp (disch := (first | (simp; done) | omega | (simp; omega))) [g2]; (try simp (disch := (first | omega | (simp; omega))) only [X7, X8, X9, Xa, Xb, Xc]); ((first | refine acall_pure (h1) (by simp) ?_ | skip) <;> ((repeat (refine Yz ?_)); (first | refine h9 _ _ (Yp ?_)); clear h9 K9))) | refine Yo ?_ | (refine Y8 fun K hK => ?_) | refine Yq ?_ | (apply hK; clear hK K) | (refine Ye ?_; refine Yf ?_) | (refine Yn ?_ ?_; (focus (simp [g2]; done)); refine Yp ?_) | refine Yg ?_ | (simp only [X0, X1, X2, X3, X4, X5, X6, Nat.reduceBEq]) | (clear hK K; first | (apply hK; clear hK K) | (clear hK K; first | (apply hK; clear hK K) | (clear hK K; first | (apply hK; clear hK K) | (clear hK K; apply hK; clear hK K)))))
        (try simp)
        exact .pure .bool
      · cases s
        · repeat' (first | ((first | refine Yl rfl fun K9 h9 => ?_ | (refine Ym ?_ ?_; (focus (simp [g2]; done)); intro K9 h9)); simp (disch := (first | (simp; done) | omega | (simp; omega))) [g2]; (try simp (disch := (first | omega | (simp; omega))) only [X7, X8, X9, Xa, Xb, Xc]); ((first | refine acall_pure (h1) (by simp) ?_ | refine acall_pure (h2) (by simp) ?_ | skip) <;> ((repeat (refine Yz ?_)); (first | refine h9 _ _ (Yp ?_)); clear h9 K9))) | refine Yo ?_ | (refine Y8 fun K hK => ?_) | refine Yq ?_ | (apply hK; clear hK K) | (refine Ye ?_; refine Yf ?_) | (refine Yn ?_ ?_; (focus (simp [g2]; done)); refine Yp ?_) | refine Yg ?_ | (simp only [X0, X1, X2, X3, X4, X5, X6, Nat.reduceBEq]) | (clear hK K; first | (apply hK; clear hK K) | (clear hK K; first | (apply hK; clear hK K) | (clear hK K; first | (apply hK; clear hK K) | (clear hK K; apply hK; clear hK K)))))
          (try simp)
          exact .pure .bool
        · by_cases g3 : ax = bx
          · subst g3
            by_cases g4 : bb ≤ a.number
            · repeat' (first | ((first | refine Yl rfl fun K9 h9 => ?_ | (refine Ym ?_ ?_; (focus (simp [g2, g4]; done)); intro K9 h9)); simp (disch := (first | (simp; done) | omega | (simp; omega))) [g2, g4]; (try simp (disch := (first | omega | (simp; omega))) only [X7, X8, X9, Xa, Xb, Xc]); ((first | refine acall_pure (h1) (by simp) ?_ | refine acall_pure (h2) (by simp) ?_ | skip) <;> ((repeat (refine Yz ?_)); (first | refine h9 _ _ (Yp ?_)); clear h9 K9))) | refine Yo ?_ | (refine Y8 fun K hK => ?_) | refine Yq ?_ | (apply hK; clear hK K) | (refine Ye ?_; refine Yf ?_) | (refine Yn ?_ ?_; (focus (simp [g2, g4]; done)); refine Yp ?_) | refine Yg ?_ | (simp only [X0, X1, X2, X3, X4, X5, X6, Nat.reduceBEq]) | (clear hK K; first | (apply hK; clear hK K) | (clear hK K; first | (apply hK; clear hK K) | (clear hK K; first | (apply hK; clear hK K) | (clear hK K; apply hK; clear hK K)))))
              (try simp [g2, g4])
              exact .pure .bool
            · repeat' (first | ((first | refine Yl rfl fun K9 h9 => ?_ | (refine Ym ?_ ?_; (focus (simp [g2, g4]; done)); intro K9 h9)); simp (disch := (first | (simp; done) | omega | (simp; omega))) [g2, g4]; (try simp (disch := (first | omega | (simp; omega))) only [X7, X8, X9, Xa, Xb, Xc]); ((first | refine acall_pure (h1) (by simp) ?_ | refine acall_pure (h2) (by simp) ?_ | skip) <;> ((repeat (refine Yz ?_)); (first | refine h9 _ _ (Yp ?_)); clear h9 K9))) | refine Yo ?_ | (refine Y8 fun K hK => ?_) | refine Yq ?_ | (apply hK; clear hK K) | (refine Ye ?_; refine Yf ?_) | (refine Yn ?_ ?_; (focus (simp [g2, g4]; done)); refine Yp ?_) | refine Yg ?_ | (simp only [X0, X1, X2, X3, X4, X5, X6, Nat.reduceBEq]) | (clear hK K; first | (apply hK; clear hK K) | (clear hK K; first | (apply hK; clear hK K) | (clear hK K; first | (apply hK; clear hK K) | (clear hK K; apply hK; clear hK K)))))
              (try simp [g4])
              exact .pure .bool
          · repeat' (first | ((first | refine Yl rfl fun K9 h9 => ?_ | (refine Ym ?_ ?_; (focus (simp [g2, g3]; done)); intro K9 h9)); simp (disch := (first | (simp; done) | omega | (simp; omega))) [g2, g3]; (try simp (disch := (first | omega | (simp; omega))) only [X7, X8, X9, Xa, Xb, Xc]); ((first | refine acall_pure (h1) (by simp) ?_ | refine acall_pure (h2) (by simp) ?_ | skip) <;> ((repeat (refine Yz ?_)); (first | refine h9 _ _ (Yp ?_)); clear h9 K9))) | refine Yo ?_ | (refine Y8 fun K hK => ?_) | refine Yq ?_ | (apply hK; clear hK K) | (refine Ye ?_; refine Yf ?_) | (refine Yn ?_ ?_; (focus (simp [g2, g3]; done)); refine Yp ?_) | refine Yg ?_ | (simp only [X0, X1, X2, X3, X4, X5, X6, Nat.reduceBEq]) | (clear hK K; first | (apply hK; clear hK K) | (clear hK K; first | (apply hK; clear hK K) | (clear hK K; first | (apply hK; clear hK K) | (clear hK K; apply hK; clear hK K)))))
            (try simp [g3])
            exact .pure .bool
  · repeat' (first | ((first | refine Yl rfl fun K9 h9 => ?_ | (refine Ym ?_ ?_; (focus (simp [g1]; done)); intro K9 h9)); simp (disch := (first | (simp; done) | omega | (simp; omega))) [g1]; (try simp (disch := (first | omega | (simp; omega))) only [X7, X8, X9, Xa, Xb, Xc]); ((repeat (refine Yz ?_)); (first | refine h9 _ _ (Yp ?_)); clear h9 K9)) | refine Yo ?_ | (refine Y8 fun K hK => ?_) | refine Yq ?_ | (apply hK; clear hK K) | (refine Ye ?_; refine Yf ?_) | (refine Yn ?_ ?_; (focus (simp [g1]; done)); refine Yp ?_) | refine Yg ?_ | (simp only [X0, X1, X2, X3, X4, X5, X6, Nat.reduceBEq]) | (clear hK K; first | (apply hK; clear hK K) | (clear hK K; first | (apply hK; clear hK K) | (clear hK K; first | (apply hK; clear hK K) | (clear hK K; apply hK; clear hK K)))))
    (try simp [g1])
    exact .pure .bool
  · exact .bool

theorem current_call (l : Li) (t : Int) : PCall Tryd.prog 33 [.agg l.c, .int .i64 t] (.bool (currentB l t)) := by
  have hsp : currentB l t = (decide (l.this ≤ t) && decide (t ≤ l.next)) := rfl
  rw [hsp]
  rw [Li.c.eq_1]
  refine pcall_body Tryd.func33 rfl Tryd.call33 ?_ ?_
  rotate_left 1
  refine awp_slots (s' := [(.agg [.str l.raw, .str l.tbs, nmV l.issuer, .int .i64 l.this, .int .i64 l.next, .int .i64 l.number, .int .i64 l.base, .str l.ak, .bool l.has, gnsV l.sc.names, .bool l.sc.ou, .bool l.sc.oc, .int .i64 l.sc.reasons, .bool l.sc.ind, ptsV l.fresh, ensV l.entries, .str l.sig] : V), (.int .i64 t : V), .junk, .junk, .junk, .junk, .junk, .junk, .junk, .junk, .junk, .junk, .junk, .junk, .junk]) rfl ?_
  by_cases g1 : l.this ≤ t
  · repeat' (first | ((first | refine Y0 rfl fun K9 h9 => ?_ | (refine Y3 ?_ ?_; (focus (simp [g1]; done)); intro K9 h9)); simp (disch := (first | (simp; done) | omega | (simp; omega))) [g1]; (try simp (disch := (first | omega | (simp; omega))) only [X7, X8, X9, Xa, Xb, Xc]); ((repeat (refine Yz ?_)); (first | refine h9 _ _ (Ys ?_)); clear h9 K9)) | refine Y6 ?_ | (refine Y8 fun K hK => ?_) | refine Y9 ?_ | (apply hK; clear hK K) | (refine Ye ?_; refine Yf ?_) | (refine Yh ?_ ?_; (focus (simp [g1]; done)); refine Ys ?_) | refine Yg ?_ | (simp only [X0, X1, X2, X3, X4, X5, X6, Nat.reduceBEq]) | (clear hK K; first | (apply hK; clear hK K) | (clear hK K; first | (apply hK; clear hK K) | (clear hK K; first | (apply hK; clear hK K) | (clear hK K; apply hK; clear hK K)))))
    (try simp [g1])
    exact .pure .bool
  · repeat' (first | ((first | refine Y0 rfl fun K9 h9 => ?_ | (refine Y3 ?_ ?_; (focus (simp [g1]; done)); intro K9 h9)); simp (disch := (first | (simp; done) | omega | (simp; omega))) [g1]; (try simp (disch := (first | omega | (simp; omega))) only [X7, X8, X9, Xa, Xb, Xc]); ((repeat (refine Yz ?_)); (first | refine h9 _ _ (Ys ?_)); clear h9 K9)) | refine Y6 ?_ | (refine Y8 fun K hK => ?_) | refine Y9 ?_ | (apply hK; clear hK K) | (refine Ye ?_; refine Yf ?_) | (refine Yh ?_ ?_; (focus (simp [g1]; done)); refine Ys ?_) | refine Yg ?_ | (simp only [X0, X1, X2, X3, X4, X5, X6, Nat.reduceBEq]) | (clear hK K; first | (apply hK; clear hK K) | (clear hK K; first | (apply hK; clear hK K) | (clear hK K; first | (apply hK; clear hK K) | (clear hK K; apply hK; clear hK K)))))
    (try simp [g1])
    exact .pure .bool
  · exact .bool
end Go.Proofs.YtbdfghlkkdkpgaaDoor

