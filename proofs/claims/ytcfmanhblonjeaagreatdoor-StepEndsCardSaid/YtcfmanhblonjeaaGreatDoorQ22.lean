/-
  STEP: small functions of the reference.
  Conditions: none.
-/
import Derived.Test.YtcfmanhblonjeaaGreatDoorGe
import Derived.Test.YtcfmanhblonjeaaGreatDoorGf
import Derived.Test.YtcfmanhblonjeaaGreatDoorGg
import Derived.Test.YtcfmanhblonjeaaGreatDoorGh
import Derived.Test.YtcfmanhblonjeaaGreatDoorGj
import Derived.Test.YtcfmanhblonjeaaGreatDoorGl
import Derived.Test.YtcfmanhblonjeaaGreatDoorQ6
import Derived.Test.YtcfmanhblonjeaaGreatDoorQ7
import Derived.Test.YtcfmanhblonjeaaGreatDoorGk
import Derived.Test.YtcfmanhblonjeaaGreatDoorTab
import Derived.Test.YtcfmanhblonjeaaGreatDoorGd
import Derived.Test.YtcfmanhblonjeaaGreatDoorGi
namespace Go.Proofs.YtcfmanhblonjeaaGreatDoor
open Go.VS Go.Stp
set_option linter.all false
set_option maxRecDepth 100000
set_option maxHeartbeats 8000000
attribute [local irreducible] arun arunD arunU AWp aend bits
theorem rless_call (n : Int) (b : Bool) (x : Int) (hn : I64 n) : PCall Tryz.prog 32 [.int .i64 n, .bool b, .int .i64 x] (.int .i64 (leastS (fallS (!b) n) x)) := by
  unfold I64 at hn
  refine pcall_body Tryz.func32 rfl Tryz.call32 ?_ ?_
  rotate_left 1
  refine awp_slots (s' := (.int .i64 n : V) :: (.bool b : V) :: (.int .i64 x : V) :: zJ 20) rfl ?_; dsimp only [zJ]
  have key : ∀ m : Int, fallS (!b) n = m → (leastS (fallS (!b) n) x = if x = -1 then m else if x < m then x else m) := by
    rintro m rfl
    unfold leastS
    split
    · rename_i h; rw [if_neg h.1, if_pos h.2]
    · rename_i h
      split
      · rfl
      · rename_i h2
        rw [if_neg (fun h3 => h ⟨h2, h3⟩)]
  cases b
  · rw [key n rfl]
    by_cases h1 : x = -1
    · repeat' (first | ((first | refine Yl rfl fun K9 h9 => ?_ | (refine Ym ?_ ?_; (focus (simp [h1]; done)); intro K9 h9)); simp (disch := first | exact dd | fail) [h1]; (try simp (disch := first | exact de | fail) only [X7]); ((repeat (refine Yz ?_)); (first | refine h9 _ _ (Yp ?_)); clear h9 K9)) | refine Yo ?_ | (refine Y8 fun K hK => ?_) | refine Yq ?_ | (apply hK; clear hK K) | (refine Yb rfl ?_ ?_ <;> intro hcnd <;> (try simp at hcnd) <;> try exact dc) | refine Yc ?_ | (refine Ye ?_; refine Yf ?_) | (refine Yn ?_ ?_; (focus (simp [h1]; done)); refine Yp ?_) | refine Yg ?_ | (simp only [X0, Nat.reduceBEq]) | clear hK K)
      (try rw [if_pos h1])
      exact .pure .int
    · by_cases h2 : x < n
      · repeat' (first | ((first | refine Yl rfl fun K9 h9 => ?_ | (refine Ym ?_ ?_; (focus (simp [h1, h2]; done)); intro K9 h9)); simp (disch := first | exact dd | fail) [h1, h2]; (try simp (disch := first | exact de | fail) only [X7]); ((repeat (refine Yz ?_)); (first | refine h9 _ _ (Yp ?_)); clear h9 K9)) | refine Yo ?_ | (refine Y8 fun K hK => ?_) | refine Yq ?_ | (apply hK; clear hK K) | (refine Yb rfl ?_ ?_ <;> intro hcnd <;> (try simp at hcnd) <;> try exact dc) | refine Yc ?_ | (refine Ye ?_; refine Yf ?_) | (refine Yn ?_ ?_; (focus (simp [h1, h2]; done)); refine Yp ?_) | refine Yg ?_ | (simp only [X0, Nat.reduceBEq]) | clear hK K)
        (try rw [if_neg h1, if_pos h2])
        exact .pure .int
      · repeat' (first | ((first | refine Yl rfl fun K9 h9 => ?_ | (refine Ym ?_ ?_; (focus (simp [h1, h2]; done)); intro K9 h9)); simp (disch := first | exact dd | fail) [h1, h2]; (try simp (disch := first | exact de | fail) only [X7]); ((repeat (refine Yz ?_)); (first | refine h9 _ _ (Yp ?_)); clear h9 K9)) | refine Yo ?_ | (refine Y8 fun K hK => ?_) | refine Yq ?_ | (apply hK; clear hK K) | (refine Yb rfl ?_ ?_ <;> intro hcnd <;> (try simp at hcnd) <;> try exact dc) | refine Yc ?_ | (refine Ye ?_; refine Yf ?_) | (refine Yn ?_ ?_; (focus (simp [h1, h2]; done)); refine Yp ?_) | refine Yg ?_ | (simp only [X0, Nat.reduceBEq]) | clear hK K)
        (try rw [if_neg h1, if_neg h2])
        exact .pure .int
  · by_cases h0 : 0 < n
    · rw [key (n - 1) (by simp [fallS, decS, h0])]
      by_cases h1 : x = -1
      · repeat' (first | ((first | refine Yl rfl fun K9 h9 => ?_ | (refine Ym ?_ ?_; (focus (simp [h0, h1]; done)); intro K9 h9)); simp (disch := first | exact dd | fail) [h0, h1]; (try simp (disch := first | exact de | fail) only [X7]); ((repeat (refine Yz ?_)); (first | refine h9 _ _ (Yp ?_)); clear h9 K9)) | refine Yo ?_ | (refine Y8 fun K hK => ?_) | refine Yq ?_ | (apply hK; clear hK K) | (refine Yb rfl ?_ ?_ <;> intro hcnd <;> (try simp at hcnd) <;> try exact dc) | refine Yc ?_ | (refine Ye ?_; refine Yf ?_) | (refine Yn ?_ ?_; (focus (simp [h0, h1]; done)); refine Yp ?_) | refine Yg ?_ | (simp only [X0, Nat.reduceBEq]) | clear hK K)
        (try rw [if_pos h1])
        exact .pure .int
      · by_cases h2 : x < n - 1
        · repeat' (first | ((first | refine Yl rfl fun K9 h9 => ?_ | (refine Ym ?_ ?_; (focus (simp [h0, h1, h2]; done)); intro K9 h9)); simp (disch := first | exact dd | fail) [h0, h1, h2]; (try simp (disch := first | exact de | fail) only [X7]); ((repeat (refine Yz ?_)); (first | refine h9 _ _ (Yp ?_)); clear h9 K9)) | refine Yo ?_ | (refine Y8 fun K hK => ?_) | refine Yq ?_ | (apply hK; clear hK K) | (refine Yb rfl ?_ ?_ <;> intro hcnd <;> (try simp at hcnd) <;> try exact dc) | refine Yc ?_ | (refine Ye ?_; refine Yf ?_) | (refine Yn ?_ ?_; (focus (simp [h0, h1, h2]; done)); refine Yp ?_) | refine Yg ?_ | (simp only [X0, Nat.reduceBEq]) | clear hK K)
          (try rw [if_neg h1, if_pos h2])
          exact .pure .int
        · repeat' (first | ((first | refine Yl rfl fun K9 h9 => ?_ | (refine Ym ?_ ?_; (focus (simp [h0, h1, h2]; done)); intro K9 h9)); simp (disch := first | exact dd | fail) [h0, h1, h2]; (try simp (disch := first | exact de | fail) only [X7]); ((repeat (refine Yz ?_)); (first | refine h9 _ _ (Yp ?_)); clear h9 K9)) | refine Yo ?_ | (refine Y8 fun K hK => ?_) | refine Yq ?_ | (apply hK; clear hK K) | (refine Yb rfl ?_ ?_ <;> intro hcnd <;> (try simp at hcnd) <;> try exact dc) | refine Yc ?_ | (refine Ye ?_; refine Yf ?_) | (refine Yn ?_ ?_; (focus (simp [h0, h1, h2]; done)); refine Yp ?_) | refine Yg ?_ | (simp only [X0, Nat.reduceBEq]) | clear hK K)
          (try rw [if_neg h1, if_neg h2])
          exact .pure .int
    · rw [key n (by simp [fallS, decS, h0])]
      by_cases h1 : x = -1
      · repeat' (first | ((first | refine Yl rfl fun K9 h9 => ?_ | (refine Ym ?_ ?_; (focus (simp [h0, h1]; done)); intro K9 h9)); simp (disch := first | exact dd | fail) [h0, h1]; (try simp (disch := first | exact de | fail) only [X7]); ((repeat (refine Yz ?_)); (first | refine h9 _ _ (Yp ?_)); clear h9 K9)) | refine Yo ?_ | (refine Y8 fun K hK => ?_) | refine Yq ?_ | (apply hK; clear hK K) | (refine Yb rfl ?_ ?_ <;> intro hcnd <;> (try simp at hcnd) <;> try exact dc) | refine Yc ?_ | (refine Ye ?_; refine Yf ?_) | (refine Yn ?_ ?_; (focus (simp [h0, h1]; done)); refine Yp ?_) | refine Yg ?_ | (simp only [X0, Nat.reduceBEq]) | clear hK K)
        (try rw [if_pos h1])
        exact .pure .int
      · by_cases h2 : x < n
        · repeat' (first | ((first | refine Yl rfl fun K9 h9 => ?_ | (refine Ym ?_ ?_; (focus (simp [h0, h1, h2]; done)); intro K9 h9)); simp (disch := first | exact dd | fail) [h0, h1, h2]; (try simp (disch := first | exact de | fail) only [X7]); ((repeat (refine Yz ?_)); (first | refine h9 _ _ (Yp ?_)); clear h9 K9)) | refine Yo ?_ | (refine Y8 fun K hK => ?_) | refine Yq ?_ | (apply hK; clear hK K) | (refine Yb rfl ?_ ?_ <;> intro hcnd <;> (try simp at hcnd) <;> try exact dc) | refine Yc ?_ | (refine Ye ?_; refine Yf ?_) | (refine Yn ?_ ?_; (focus (simp [h0, h1, h2]; done)); refine Yp ?_) | refine Yg ?_ | (simp only [X0, Nat.reduceBEq]) | clear hK K)
          (try rw [if_neg h1, if_pos h2])
          exact .pure .int
        · repeat' (first | ((first | refine Yl rfl fun K9 h9 => ?_ | (refine Ym ?_ ?_; (focus (simp [h0, h1, h2]; done)); intro K9 h9)); simp (disch := first | exact dd | fail) [h0, h1, h2]; (try simp (disch := first | exact de | fail) only [X7]); ((repeat (refine Yz ?_)); (first | refine h9 _ _ (Yp ?_)); clear h9 K9)) | refine Yo ?_ | (refine Y8 fun K hK => ?_) | refine Yq ?_ | (apply hK; clear hK K) | (refine Yb rfl ?_ ?_ <;> intro hcnd <;> (try simp at hcnd) <;> try exact dc) | refine Yc ?_ | (refine Ye ?_; refine Yf ?_) | (refine Yn ?_ ?_; (focus (simp [h0, h1, h2]; done)); refine Yp ?_) | refine Yg ?_ | (simp only [X0, Nat.reduceBEq]) | clear hK K)
          (try rw [if_neg h1, if_neg h2])
          exact .pure .int
  exact .int

theorem rfinal_call (s : Pg) (c : Ce) (he : I64 s.expl) : PCall Tryz.prog 14 [.agg s.c, .agg c.c] (.int .i64 (finalS s c)) := by
  have hl := rless_call s.expl true (-1) he
  rw [show leastS (fallS (!true) s.expl) (-1) = (if 0 < s.expl then s.expl - 1 else s.expl) by simp [leastS, fallS, decS]] at hl
  unfold finalS
  rw [Pg.c.eq_1, Ce.c.eq_1]
  refine pcall_body Tryz.func14 rfl Tryz.call14 ?_ ?_
  rotate_left 1
  refine awp_slots (s' := (.agg [nmV s.issuer, .int .i64 s.key.h, .str s.key.id, .str s.key.root, .bool s.lists, .int .i64 s.len, .int .i64 s.expl, .int .i64 s.map, .int .i64 s.any, sbsV s.names] : V) :: (.agg [.str c.raw, .str c.tbs, .int .i64 c.serial, nmV c.issuer, nmV c.subject, .int .i64 c.nb, .int .i64 c.na, .int .i64 c.key.h, .str c.key.id, .str c.key.root, .bool c.info.basic, .bool c.info.ca, .int .i64 c.info.plen, .int .i64 c.info.usage, strV c.info.purposes, strV c.info.policies, mpsV c.info.maps, .int .i64 c.info.rexp, .int .i64 c.info.imap, .int .i64 c.info.iany, gnsV c.info.names, .bool c.info.hasC, gnsV c.info.cons.p, gnsV c.info.cons.x, .str c.info.sk, .str c.info.ak, ptsV c.info.points, ptsV c.info.fresh, exsV c.info.unk, .str c.sig] : V) :: zJ 10) rfl ?_; dsimp only [zJ]
  by_cases h1 : c.info.rexp = 0
  · rw [if_pos h1]
    repeat' (first | (refine Y0 rfl fun K9 h9 => ?_; simp (disch := first | exact dd | fail) [h1]; (try simp (disch := first | exact de | fail) only [X7]); ((first | refine Ap hl ?_ | skip) <;> ((repeat (refine Yz ?_)); (first | refine h9 _ _ (Ys ?_)); clear h9 K9))) | refine Y6 ?_ | (refine Y8 fun K hK => ?_) | refine Y9 ?_ | (apply hK; clear hK K) | (refine Yb rfl ?_ ?_ <;> intro hcnd <;> (try simp at hcnd) <;> try exact dc) | refine Yc ?_ | (refine Ye ?_; refine Yf ?_) | refine Yg ?_ | (simp only [X0, Nat.reduceBEq]) | clear hK K)
    exact .pure .int
  · rw [if_neg h1]
    repeat' (first | (refine Y0 rfl fun K9 h9 => ?_; simp (disch := first | exact dd | fail) [h1]; (try simp (disch := first | exact de | fail) only [X7]); ((first | refine Ap hl ?_ | skip) <;> ((repeat (refine Yz ?_)); (first | refine h9 _ _ (Ys ?_)); clear h9 K9))) | refine Y6 ?_ | (refine Y8 fun K hK => ?_) | refine Y9 ?_ | (apply hK; clear hK K) | (refine Yb rfl ?_ ?_ <;> intro hcnd <;> (try simp at hcnd) <;> try exact dc) | refine Yc ?_ | (refine Ye ?_; refine Yf ?_) | refine Yg ?_ | (simp only [X0, Nat.reduceBEq]) | clear hK K)
    exact .pure .int
  · exact .int

end Go.Proofs.YtcfmanhblonjeaaGreatDoor

