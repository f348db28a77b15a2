/-
  STEP: small functions of the reference.
  Conditions: none.
-/
import Derived.Test.YtjlifjmjnhdcmaaQ7
import Derived.Test.YtjlifjmjnhdcmaaGk
namespace Go.Proofs.Ytjlifjmjnhdcmaa
open Go.VS Go.Stp
set_option linter.all false
set_option maxRecDepth 100000
set_option maxHeartbeats 8000000
attribute [local irreducible] arun arunD arunU AWp aend bits

theorem rself_call (c : Ce) (h1 : WN c.issuer) (h2 : WN c.subject) : PCall Try.prog 48 [.agg c.c] (.bool (selfB c)) := by
  have hm := rmatch_call c.issuer c.subject h1 h2
  rw [Ce.c.eq_1]
  unfold selfB
  generalize nameB c.issuer c.subject = B at *
  refine pcall_body Try.func48 rfl Try.call48 ?_ ?_
  rotate_left 1
  refine awp_slots (s' := [(.agg [.str c.raw, .str c.tbs, .int .i64 c.serial, nmV c.issuer, nmV c.subject, .int .i64 c.nb, .int .i64 c.na, .int .i64 c.key.h, .str c.key.id, .str c.key.root, .bool c.info.basic, .bool c.info.ca, .int .i64 c.info.plen, .int .i64 c.info.usage, strV c.info.purposes, strV c.info.policies, mpsV c.info.maps, .int .i64 c.info.rexp, .int .i64 c.info.imap, .int .i64 c.info.iany, gnsV c.info.names, .bool c.info.hasC, gnsV c.info.cons.p, gnsV c.info.cons.x, .str c.info.sk, .str c.info.ak, ptsV c.info.points, ptsV c.info.fresh, exsV c.info.unk, .str c.sig] : V), .junk, .junk, .junk, .junk, .junk, .junk, .junk]) rfl ?_
  repeat' (first | (refine Y0 rfl fun K9 h9 => ?_; simp (disch := (first | (simp; done) | omega | (simp; omega))); (try simp (disch := (first | omega | (simp; omega))) only [X7, X8, X9, Xa, Xb, Xc]); (first | refine acall_pure (hm) (by simp) ?_ | skip); (repeat (refine Yz ?_)); (first | refine h9 _ _ (Ys ?_)); clear h9 K9) | refine Y6 ?_ | (refine Y8 fun K hK => ?_) | refine Y9 ?_ | (apply hK; clear hK K) | (refine Ye ?_; refine Yf ?_) | refine Yg ?_ | (simp only [X0, X1, X2, X3, X4, X5, X6, Nat.reduceBEq]) | (clear hK K; first | (apply hK; clear hK K) | (clear hK K; first | (apply hK; clear hK K) | (clear hK K; first | (apply hK; clear hK K) | (clear hK K; apply hK; clear hK K)))))
  · exact .pure .bool
  · exact .bool

theorem rlimit_call (b : Bool) : PCall Try.prog 41 [.bool b] (.int .i64 (limitS b)) := by
  refine pcall_body Try.func41 rfl Try.call41 ?_ ?_
  rotate_left 1
  refine awp_slots (s' := [(.bool b : V), .junk, .junk, .junk]) rfl ?_
  cases b
  · repeat' (first | (refine Y0 rfl fun K9 h9 => ?_; simp (disch := (first | (simp; done) | omega | (simp; omega))); (try simp (disch := (first | omega | (simp; omega))) only [X7, X8, X9, Xa, Xb, Xc]); (repeat (refine Yz ?_)); (first | refine h9 _ _ (Ys ?_)); clear h9 K9) | refine Y6 ?_ | (refine Y8 fun K hK => ?_) | refine Y9 ?_ | (apply hK; clear hK K) | (refine Yb rfl (fun hcnd => ?_) (fun hcnd => ?_) <;> (try simp at hcnd) <;> (try contradiction) <;> (try (exfalso; omega))) | refine Yc ?_ | (refine Ye ?_; refine Yf ?_) | refine Yg ?_ | (simp only [X0, X1, X2, X3, X4, X5, X6, Nat.reduceBEq]) | (clear hK K; first | (apply hK; clear hK K) | (clear hK K; first | (apply hK; clear hK K) | (clear hK K; first | (apply hK; clear hK K) | (clear hK K; apply hK; clear hK K)))))
    exact .pure .int
  · repeat' (first | (refine Y0 rfl fun K9 h9 => ?_; simp (disch := (first | (simp; done) | omega | (simp; omega))); (try simp (disch := (first | omega | (simp; omega))) only [X7, X8, X9, Xa, Xb, Xc]); (repeat (refine Yz ?_)); (first | refine h9 _ _ (Ys ?_)); clear h9 K9) | refine Y6 ?_ | (refine Y8 fun K hK => ?_) | refine Y9 ?_ | (apply hK; clear hK K) | (refine Yb rfl (fun hcnd => ?_) (fun hcnd => ?_) <;> (try simp at hcnd) <;> (try contradiction) <;> (try (exfalso; omega))) | refine Yc ?_ | (refine Ye ?_; refine Yf ?_) | refine Yg ?_ | (simp only [X0, X1, X2, X3, X4, X5, X6, Nat.reduceBEq]) | (clear hK K; first | (apply hK; clear hK K) | (clear hK K; first | (apply hK; clear hK K) | (clear hK K; first | (apply hK; clear hK K) | (clear hK K; apply hK; clear hK K)))))
    exact .pure .int
  exact .int

theorem rless_call (n : Int) (b : Bool) (x : Int) (hn : I64 n) : PCall Try.prog 54 [.int .i64 n, .bool b, .int .i64 x] (.int .i64 (leastS (fallS (!b) n) x)) := by
  unfold I64 at hn
  refine pcall_body Try.func54 rfl Try.call54 ?_ ?_
  rotate_left 1
  refine awp_slots (s' := [(.int .i64 n : V), (.bool b : V), (.int .i64 x : V), .junk, .junk, .junk, .junk, .junk, .junk, .junk, .junk, .junk, .junk, .junk, .junk, .junk, .junk, .junk, .junk, .junk, .junk, .junk, .junk]) rfl ?_
  have key : ∀ m : Int, fallS (!b) n = m → (leastS (fallS (!b) n) x = if x = -1 then m else if x < m then x else m) := by
    rintro m rfl
    unfold leastS
    split
    · rename_i h; rw [if_neg h.1, if_pos h.2]
    · rename_i h
      split
      · rfl
      · rename_i h2
        rw [if_neg (fun h3 => h ⟨h2, h3⟩)]
  cases b
  · rw [key n rfl]
    by_cases h1 : x = -1
    · repeat' (first | ((first | refine Yl rfl fun K9 h9 => ?_ | (refine Ym ?_ ?_; (focus (simp [h1]; done)); intro K9 h9)); simp (disch := (first | (simp; done) | omega | (simp; omega))) [h1]; (try simp (disch := (first | omega | (simp; omega))) only [X7, X8, X9, Xa, Xb, Xc]); (repeat (refine Yz ?_)); (first | refine h9 _ _ (Yp ?_)); clear h9 K9) | refine Yo ?_ | (refine Y8 fun K hK => ?_) | refine Yq ?_ | (apply hK; clear hK K) | (refine Yb rfl (fun hcnd => ?_) (fun hcnd => ?_) <;> (try simp at hcnd) <;> (try contradiction) <;> (try (exfalso; omega))) | refine Yc ?_ | (refine Ye ?_; refine Yf ?_) | (refine Yn ?_ ?_; (focus (simp [h1]; done)); refine Yp ?_) | refine Yg ?_ | (simp only [X0, X1, X2, X3, X4, X5, X6, Nat.reduceBEq]) | (clear hK K; first | (apply hK; clear hK K) | (clear hK K; first | (apply hK; clear hK K) | (clear hK K; first | (apply hK; clear hK K) | (clear hK K; apply hK; clear hK K)))))
      (try rw [if_pos h1])
      exact .pure .int
    · by_cases h2 : x < n
      · repeat' (first | ((first | refine Yl rfl fun K9 h9 => ?_ | (refine Ym ?_ ?_; (focus (simp [h1, h2]; done)); intro K9 h9)); simp (disch := (first | (simp; done) | omega | (simp; omega))) [h1, h2]; (try simp (disch := (first | omega | (simp; omega))) only [X7, X8, X9, Xa, Xb, Xc]); (repeat (refine Yz ?_)); (first | refine h9 _ _ (Yp ?_)); clear h9 K9) | refine Yo ?_ | (refine Y8 fun K hK => ?_) | refine Yq ?_ | (apply hK; clear hK K) | (refine Yb rfl (fun hcnd => ?_) (fun hcnd => ?_) <;> (try simp at hcnd) <;> (try contradiction) <;> (try (exfalso; omega))) | refine Yc ?_ | (refine Ye ?_; refine Yf ?_) | (refine Yn ?_ ?_; (focus (simp [h1, h2]; done)); refine Yp ?_) | refine Yg ?_ | (simp only [X0, X1, X2, X3, X4, X5, X6, Nat.reduceBEq]) | (clear hK K; first | (apply hK; clear hK K) | (clear hK K; first | (apply hK; clear hK K) | (clear hK K; first | (apply hK; clear hK K) | (clear hK K; apply hK; clear hK K)))))
        (try rw [if_neg h1, if_pos h2])
        exact .pure .int
      · repeat' (first | ((first | refine Yl rfl fun K9 h9 => ?_ | (refine Ym ?_ ?_; (focus (simp [h1, h2]; done)); intro K9 h9)); simp (disch := (first | (simp; done) | omega | (simp; omega))) [h1, h2]; (try simp (disch := (first | omega | (simp; omega))) only [X7, X8, X9, Xa, Xb, Xc]); (repeat (refine Yz ?_)); (first | refine h9 _ _ (Yp ?_)); clear h9 K9) | refine Yo ?_ | (refine Y8 fun K hK => ?_) | refine Yq ?_ | (apply hK; clear hK K) | (refine Yb rfl (fun hcnd => ?_) (fun hcnd => ?_) <;> (try simp at hcnd) <;> (try contradiction) <;> (try (exfalso; omega))) | refine Yc ?_ | (refine Ye ?_; refine Yf ?_) | (refine Yn ?_ ?_; (focus (simp [h1, h2]; done)); refine Yp ?_) | refine Yg ?_ | (simp only [X0, X1, X2, X3, X4, X5, X6, Nat.reduceBEq]) | (clear hK K; first | (apply hK; clear hK K) | (clear hK K; first | (apply hK; clear hK K) | (clear hK K; first | (apply hK; clear hK K) | (clear hK K; apply hK; clear hK K)))))
        (try rw [if_neg h1, if_neg h2])
        exact .pure .int
  · by_cases h0 : 0 < n
    · rw [key (n - 1) (by simp [fallS, decS, h0])]
      by_cases h1 : x = -1
      · repeat' (first | ((first | refine Yl rfl fun K9 h9 => ?_ | (refine Ym ?_ ?_; (focus (simp [h0, h1]; done)); intro K9 h9)); simp (disch := (first | (simp; done) | omega | (simp; omega))) [h0, h1]; (try simp (disch := (first | omega | (simp; omega))) only [X7, X8, X9, Xa, Xb, Xc]); (repeat (refine Yz ?_)); (first | refine h9 _ _ (Yp ?_)); clear h9 K9) | refine Yo ?_ | (refine Y8 fun K hK => ?_) | refine Yq ?_ | (apply hK; clear hK K) | (refine Yb rfl (fun hcnd => ?_) (fun hcnd => ?_) <;> (try simp at hcnd) <;> (try contradiction) <;> (try (exfalso; omega))) | refine Yc ?_ | (refine Ye ?_; refine Yf ?_) | (refine Yn ?_ ?_; (focus (simp [h0, h1]; done)); refine Yp ?_) | refine Yg ?_ | (simp only [X0, X1, X2, X3, X4, X5, X6, Nat.reduceBEq]) | (clear hK K; first | (apply hK; clear hK K) | (clear hK K; first | (apply hK; clear hK K) | (clear hK K; first | (apply hK; clear hK K) | (clear hK K; apply hK; clear hK K)))))
        (try rw [if_pos h1])
        exact .pure .int
      · by_cases h2 : x < n - 1
        · repeat' (first | ((first | refine Yl rfl fun K9 h9 => ?_ | (refine Ym ?_ ?_; (focus (simp [h0, h1, h2]; done)); intro K9 h9)); simp (disch := (first | (simp; done) | omega | (simp; omega))) [h0, h1, h2]; (try simp (disch := (first | omega | (simp; omega))) only [X7, X8, X9, Xa, Xb, Xc]); (repeat (refine Yz ?_)); (first | refine h9 _ _ (Yp ?_)); clear h9 K9) | refine Yo ?_ | (refine Y8 fun K hK => ?_) | refine Yq ?_ | (apply hK; clear hK K) | (refine Yb rfl (fun hcnd => ?_) (fun hcnd => ?_) <;> (try simp at hcnd) <;> (try contradiction) <;> (try (exfalso; omega))) | refine Yc ?_ | (refine Ye ?_; refine Yf ?_) | (refine Yn ?_ ?_; (focus (simp [h0, h1, h2]; done)); refine Yp ?_) | refine Yg ?_ | (simp only [X0, X1, X2, X3, X4, X5, X6, Nat.reduceBEq]) | (clear hK K; first | (apply hK; clear hK K) | (clear hK K; first | (apply hK; clear hK K) | (clear hK K; first | (apply hK; clear hK K) | (clear hK K; apply hK; clear hK K)))))
          (try rw [if_neg h1, if_pos h2])
          exact .pure .int
        · repeat' (first | ((first | refine Yl rfl fun K9 h9 => ?_ | (refine Ym ?_ ?_; (focus (simp [h0, h1, h2]; done)); intro K9 h9)); simp (disch := (first | (simp; done) | omega | (simp; omega))) [h0, h1, h2]; (try simp (disch := (first | omega | (simp; omega))) only [X7, X8, X9, Xa, Xb, Xc]); (repeat (refine Yz ?_)); (first | refine h9 _ _ (Yp ?_)); clear h9 K9) | refine Yo ?_ | (refine Y8 fun K hK => ?_) | refine Yq ?_ | (apply hK; clear hK K) | (refine Yb rfl (fun hcnd => ?_) (fun hcnd => ?_) <;> (try simp at hcnd) <;> (try contradiction) <;> (try (exfalso; omega))) | refine Yc ?_ | (refine Ye ?_; refine Yf ?_) | (refine Yn ?_ ?_; (focus (simp [h0, h1, h2]; done)); refine Yp ?_) | refine Yg ?_ | (simp only [X0, X1, X2, X3, X4, X5, X6, Nat.reduceBEq]) | (clear hK K; first | (apply hK; clear hK K) | (clear hK K; first | (apply hK; clear hK K) | (clear hK K; first | (apply hK; clear hK K) | (clear hK K; apply hK; clear hK K)))))
          (try rw [if_neg h1, if_neg h2])
          exact .pure .int
    · rw [key n (by simp [fallS, decS, h0])]
      by_cases h1 : x = -1
      · repeat' (first | ((first | refine Yl rfl fun K9 h9 => ?_ | (refine Ym ?_ ?_; (focus (simp [h0, h1]; done)); intro K9 h9)); simp (disch := (first | (simp; done) | omega | (simp; omega))) [h0, h1]; (try simp (disch := (first | omega | (simp; omega))) only [X7, X8, X9, Xa, Xb, Xc]); (repeat (refine Yz ?_)); (first | refine h9 _ _ (Yp ?_)); clear h9 K9) | refine Yo ?_ | (refine Y8 fun K hK => ?_) | refine Yq ?_ | (apply hK; clear hK K) | (refine Yb rfl (fun hcnd => ?_) (fun hcnd => ?_) <;> (try simp at hcnd) <;> (try contradiction) <;> (try (exfalso; omega))) | refine Yc ?_ | (refine Ye ?_; refine Yf ?_) | (refine Yn ?_ ?_; (focus (simp [h0, h1]; done)); refine Yp ?_) | refine Yg ?_ | (simp only [X0, X1, X2, X3, X4, X5, X6, Nat.reduceBEq]) | (clear hK K; first | (apply hK; clear hK K) | (clear hK K; first | (apply hK; clear hK K) | (clear hK K; first | (apply hK; clear hK K) | (clear hK K; apply hK; clear hK K)))))
        (try rw [if_pos h1])
        exact .pure .int
      · by_cases h2 : x < n
        · repeat' (first | ((first | refine Yl rfl fun K9 h9 => ?_ | (refine Ym ?_ ?_; (focus (simp [h0, h1, h2]; done)); intro K9 h9)); simp (disch := (first | (simp; done) | omega | (simp; omega))) [h0, h1, h2]; (try simp (disch := (first | omega | (simp; omega))) only [X7, X8, X9, Xa, Xb, Xc]); (repeat (refine Yz ?_)); (first | refine h9 _ _ (Yp ?_)); clear h9 K9) | refine Yo ?_ | (refine Y8 fun K hK => ?_) | refine Yq ?_ | (apply hK; clear hK K) | (refine Yb rfl (fun hcnd => ?_) (fun hcnd => ?_) <;> (try simp at hcnd) <;> (try contradiction) <;> (try (exfalso; omega))) | refine Yc ?_ | (refine Ye ?_; refine Yf ?_) | (refine Yn ?_ ?_; (focus (simp [h0, h1, h2]; done)); refine Yp ?_) | refine Yg ?_ | (simp only [X0, X1, X2, X3, X4, X5, X6, Nat.reduceBEq]) | (clear hK K; first | (apply hK; clear hK K) | (clear hK K; first | (apply hK; clear hK K) | (clear hK K; first | (apply hK; clear hK K) | (clear hK K; apply hK; clear hK K)))))
          (try rw [if_neg h1, if_pos h2])
          exact .pure .int
        · repeat' (first | ((first | refine Yl rfl fun K9 h9 => ?_ | (refine Ym ?_ ?_; (focus (simp [h0, h1, h2]; done)); intro K9 h9)); simp (disch := (first | (simp; done) | omega | (simp; omega))) [h0, h1, h2]; (try simp (disch := (first | omega | (simp; omega))) only [X7, X8, X9, Xa, Xb, Xc]); (repeat (refine Yz ?_)); (first | refine h9 _ _ (Yp ?_)); clear h9 K9) | refine Yo ?_ | (refine Y8 fun K hK => ?_) | refine Yq ?_ | (apply hK; clear hK K) | (refine Yb rfl (fun hcnd => ?_) (fun hcnd => ?_) <;> (try simp at hcnd) <;> (try contradiction) <;> (try (exfalso; omega))) | refine Yc ?_ | (refine Ye ?_; refine Yf ?_) | (refine Yn ?_ ?_; (focus (simp [h0, h1, h2]; done)); refine Yp ?_) | refine Yg ?_ | (simp only [X0, X1, X2, X3, X4, X5, X6, Nat.reduceBEq]) | (clear hK K; first | (apply hK; clear hK K) | (clear hK K; first | (apply hK; clear hK K) | (clear hK K; first | (apply hK; clear hK K) | (clear hK K; apply hK; clear hK K)))))
          (try rw [if_neg h1, if_neg h2])
          exact .pure .int
  exact .int

theorem rbegin_call (a : An) (q : Qu) : PCall Try.prog 14 [.agg a.c, .agg q.c] (.agg (beginS a q).c) := by
  refine pcall_nzt (r := .agg [nmV a.n, .int .i64 a.k.h, .str a.k.id, .str a.k.root, .bool true, .int .i64 8, .int .i64 (limitS q.expl), .int .i64 (limitS q.nomap), .int .i64 (limitS q.noany), .nils]) ?_ (by simp [nzt, nza, nz, nmV, beginS, Pg.c, sbsV]) (by simp)
  have l1 := rlimit_call q.expl
  have l2 := rlimit_call q.nomap
  have l3 := rlimit_call q.noany
  have hA := nmV_one a.n
  have hA2 := nmV_pure a.n
  have e := An.c.eq_1 a
  have e2 := Qu.c.eq_1 q
  rw [e, e2]
  generalize nmV a.n = A at *
  refine pcall_body Try.func14 rfl Try.call14 ?_ ?_
  rotate_left 1
  refine awp_slots (s' := [(.agg [A, .int .i64 a.k.h, .str a.k.id, .str a.k.root] : V), (.agg [.int .i64 q.time, .str q.purpose, .int .i64 q.usage, strV q.policies, .bool q.expl, .bool q.nomap, .bool q.noany, gnsV q.names, .int .i64 q.maxlen, .bool q.status, ansV q.issuers] : V), .junk, .junk, .junk, .junk, .junk, .junk, .junk, .junk, .junk, .junk, .junk, .junk, .junk, .junk, .junk, .junk, .junk]) rfl ?_
  repeat' (first | ((first | refine Y0 rfl fun K9 h9 => ?_ | refine Y1 rfl rfl fun K9 h9 => ?_ | refine Y2 rfl rfl fun K9 h9 => ?_); simp (disch := (first | (simp; done) | omega | (simp; omega))) [hA, hA2]; (try simp (disch := (first | omega | (simp; omega))) only [X7, X8, X9, Xa, Xb, Xc]); (first | refine ⟨_, l1, ?_⟩ | refine ⟨_, l2, ?_⟩ | refine ⟨_, l3, ?_⟩ | skip); (repeat (refine Yz ?_)); (first | refine h9 _ _ (Ys ?_) | refine h9 _ _ (Yt ?_)); clear h9 K9) | refine Y6 ?_ | refine Y7 ?_ | (refine Y8 fun K hK => ?_) | refine Y9 ?_ | (apply hK; clear hK K) | ((first | refine Yk (m := 0) (by decide +kernel) [0, 0, 0, 0, 0, 0, 1, 0, 0, 1, 0, 0, 1, 0, 0] (by kernel_rfl) (by decide +kernel) ?_ | refine Yk (m := 0) (by decide +kernel) [] (by kernel_rfl) (by decide +kernel) ?_); dsimp only [List.replicate, List.append_nil, List.cons_append, List.nil_append, List.length_cons, List.length_nil]) | (refine Ye ?_; refine Yf ?_) | refine Yg ?_ | (simp only [X0, X1, X2, X3, X4, X5, X6, Nat.reduceBEq]) | (clear hK K; first | (apply hK; clear hK K) | (clear hK K; first | (apply hK; clear hK K) | (clear hK K; first | (apply hK; clear hK K) | (clear hK K; apply hK; clear hK K)))))
  · simp
    exact .pure (by simp [hA2])
  · simp [hA2]

theorem rspecial_call (s : Pg) (c : Ce) (last : Bool) (h1 : WN c.issuer) (h2 : WN c.subject) : PCall Try.prog 21 [.agg s.c, .agg c.c, .bool last] (.bool (specialS s c last)) := by
  have hs := rself_call c h1 h2
  unfold specialS
  rw [Pg.c.eq_1]
  generalize selfB c = B at *
  rw [Ce.c.eq_1] at *
  refine pcall_body Try.func21 rfl Try.call21 ?_ ?_
  rotate_left 1
  refine awp_slots (s' := [(.agg [nmV s.issuer, .int .i64 s.key.h, .str s.key.id, .str s.key.root, .bool s.lists, .int .i64 s.len, .int .i64 s.expl, .int .i64 s.map, .int .i64 s.any, sbsV s.names] : V), (.agg [.str c.raw, .str c.tbs, .int .i64 c.serial, nmV c.issuer, nmV c.subject, .int .i64 c.nb, .int .i64 c.na, .int .i64 c.key.h, .str c.key.id, .str c.key.root, .bool c.info.basic, .bool c.info.ca, .int .i64 c.info.plen, .int .i64 c.info.usage, strV c.info.purposes, strV c.info.policies, mpsV c.info.maps, .int .i64 c.info.rexp, .int .i64 c.info.imap, .int .i64 c.info.iany, gnsV c.info.names, .bool c.info.hasC, gnsV c.info.cons.p, gnsV c.info.cons.x, .str c.info.sk, .str c.info.ak, ptsV c.info.points, ptsV c.info.fresh, exsV c.info.unk, .str c.sig] : V), (.bool last : V), .junk, .junk, .junk, .junk, .junk, .junk, .junk, .junk, .junk, .junk, .junk, .junk, .junk, .junk, .junk]) rfl ?_
  by_cases h0 : s.any = 0
  · cases B
    · repeat' (first | ((first | refine Yl rfl fun K9 h9 => ?_ | (refine Ym ?_ ?_; (focus (simp [h0]; done)); intro K9 h9)); simp (disch := (first | (simp; done) | omega | (simp; omega))) [h0]; (try simp (disch := (first | omega | (simp; omega))) only [X7, X8, X9, Xa, Xb, Xc]); (first | refine acall_pure (hs) (by simp) ?_ | skip); (repeat (refine Yz ?_)); (first | refine h9 _ _ (Yp ?_)); clear h9 K9) | refine Yo ?_ | (refine Y8 fun K hK => ?_) | refine Yq ?_ | (apply hK; clear hK K) | (refine Ye ?_; refine Yf ?_) | (refine Yn ?_ ?_; (focus (simp [h0]; done)); refine Yp ?_) | refine Yg ?_ | (simp only [X0, X1, X2, X3, X4, X5, X6, Nat.reduceBEq]) | (clear hK K; first | (apply hK; clear hK K) | (clear hK K; first | (apply hK; clear hK K) | (clear hK K; first | (apply hK; clear hK K) | (clear hK K; apply hK; clear hK K)))))
      simp [h0]
      exact .pure .bool
    · cases last
      · repeat' (first | ((first | refine Yl rfl fun K9 h9 => ?_ | (refine Ym ?_ ?_; (focus (simp [h0]; done)); intro K9 h9)); simp (disch := (first | (simp; done) | omega | (simp; omega))) [h0]; (try simp (disch := (first | omega | (simp; omega))) only [X7, X8, X9, Xa, Xb, Xc]); (first | refine acall_pure (hs) (by simp) ?_ | skip); (repeat (refine Yz ?_)); (first | refine h9 _ _ (Yp ?_)); clear h9 K9) | refine Yo ?_ | (refine Y8 fun K hK => ?_) | refine Yq ?_ | (apply hK; clear hK K) | (refine Ye ?_; refine Yf ?_) | (refine Yn ?_ ?_; (focus (simp [h0]; done)); refine Yp ?_) | refine Yg ?_ | (simp only [X0, X1, X2, X3, X4, X5, X6, Nat.reduceBEq]) | (clear hK K; first | (apply hK; clear hK K) | (clear hK K; first | (apply hK; clear hK K) | (clear hK K; first | (apply hK; clear hK K) | (clear hK K; apply hK; clear hK K)))))
        simp [h0]
        exact .pure .bool
      · repeat' (first | ((first | refine Yl rfl fun K9 h9 => ?_ | (refine Ym ?_ ?_; (focus (simp [h0]; done)); intro K9 h9)); simp (disch := (first | (simp; done) | omega | (simp; omega))) [h0]; (try simp (disch := (first | omega | (simp; omega))) only [X7, X8, X9, Xa, Xb, Xc]); (first | refine acall_pure (hs) (by simp) ?_ | skip); (repeat (refine Yz ?_)); (first | refine h9 _ _ (Yp ?_)); clear h9 K9) | refine Yo ?_ | (refine Y8 fun K hK => ?_) | refine Yq ?_ | (apply hK; clear hK K) | (refine Ye ?_; refine Yf ?_) | (refine Yn ?_ ?_; (focus (simp [h0]; done)); refine Yp ?_) | refine Yg ?_ | (simp only [X0, X1, X2, X3, X4, X5, X6, Nat.reduceBEq]) | (clear hK K; first | (apply hK; clear hK K) | (clear hK K; first | (apply hK; clear hK K) | (clear hK K; first | (apply hK; clear hK K) | (clear hK K; apply hK; clear hK K)))))
        simp [h0]
        exact .pure .bool
  · repeat' (first | ((first | refine Yl rfl fun K9 h9 => ?_ | (refine Ym ?_ ?_; (focus (simp [h0]; done)); intro K9 h9)); simp (disch := (first | (simp; done) | omega | (simp; omega))) [h0]; (try simp (disch := (first | omega | (simp; omega))) only [X7, X8, X9, Xa, Xb, Xc]); (first | refine acall_pure (hs) (by simp) ?_ | skip); (repeat (refine Yz ?_)); (first | refine h9 _ _ (Yp ?_)); clear h9 K9) | refine Yo ?_ | (refine Y8 fun K hK => ?_) | refine Yq ?_ | (apply hK; clear hK K) | (refine Ye ?_; refine Yf ?_) | (refine Yn ?_ ?_; (focus (simp [h0]; done)); refine Yp ?_) | refine Yg ?_ | (simp only [X0, X1, X2, X3, X4, X5, X6, Nat.reduceBEq]) | (clear hK K; first | (apply hK; clear hK K) | (clear hK K; first | (apply hK; clear hK K) | (clear hK K; first | (apply hK; clear hK K) | (clear hK K; apply hK; clear hK K)))))
    (try simp [h0])
    exact .pure .bool
  · exact .bool

theorem rfinal_call (s : Pg) (c : Ce) (he : I64 s.expl) : PCall Try.prog 32 [.agg s.c, .agg c.c] (.int .i64 (finalS s c)) := by
  have hl := rless_call s.expl true (-1) he
  rw [show leastS (fallS (!true) s.expl) (-1) = (if 0 < s.expl then s.expl - 1 else s.expl) by simp [leastS, fallS, decS]] at hl
  unfold finalS
  rw [Pg.c.eq_1, Ce.c.eq_1]
  refine pcall_body Try.func32 rfl Try.call32 ?_ ?_
  rotate_left 1
  refine awp_slots (s' := [(.agg [nmV s.issuer, .int .i64 s.key.h, .str s.key.id, .str s.key.root, .bool s.lists, .int .i64 s.len, .int .i64 s.expl, .int .i64 s.map, .int .i64 s.any, sbsV s.names] : V), (.agg [.str c.raw, .str c.tbs, .int .i64 c.serial, nmV c.issuer, nmV c.subject, .int .i64 c.nb, .int .i64 c.na, .int .i64 c.key.h, .str c.key.id, .str c.key.root, .bool c.info.basic, .bool c.info.ca, .int .i64 c.info.plen, .int .i64 c.info.usage, strV c.info.purposes, strV c.info.policies, mpsV c.info.maps, .int .i64 c.info.rexp, .int .i64 c.info.imap, .int .i64 c.info.iany, gnsV c.info.names, .bool c.info.hasC, gnsV c.info.cons.p, gnsV c.info.cons.x, .str c.info.sk, .str c.info.ak, ptsV c.info.points, ptsV c.info.fresh, exsV c.info.unk, .str c.sig] : V), .junk, .junk, .junk, .junk, .junk, .junk, .junk, .junk, .junk, .junk]) rfl ?_
  by_cases h1 : c.info.rexp = 0
  · rw [if_pos h1]
    repeat' (first | (refine Y0 rfl fun K9 h9 => ?_; simp (disch := (first | (simp; done) | omega | (simp; omega))) [h1]; (try simp (disch := (first | omega | (simp; omega))) only [X7, X8, X9, Xa, Xb, Xc]); (first | refine acall_pure (hl) (by simp) ?_ | skip); (repeat (refine Yz ?_)); (first | refine h9 _ _ (Ys ?_)); clear h9 K9) | refine Y6 ?_ | (refine Y8 fun K hK => ?_) | refine Y9 ?_ | (apply hK; clear hK K) | (refine Yb rfl (fun hcnd => ?_) (fun hcnd => ?_) <;> (try simp at hcnd) <;> (try contradiction) <;> (try (exfalso; omega))) | refine Yc ?_ | (refine Ye ?_; refine Yf ?_) | refine Yg ?_ | (simp only [X0, X1, X2, X3, X4, X5, X6, Nat.reduceBEq]) | (clear hK K; first | (apply hK; clear hK K) | (clear hK K; first | (apply hK; clear hK K) | (clear hK K; first | (apply hK; clear hK K) | (clear hK K; apply hK; clear hK K)))))
    exact .pure .int
  · rw [if_neg h1]
    repeat' (first | (refine Y0 rfl fun K9 h9 => ?_; simp (disch := (first | (simp; done) | omega | (simp; omega))) [h1]; (try simp (disch := (first | omega | (simp; omega))) only [X7, X8, X9, Xa, Xb, Xc]); (first | refine acall_pure (hl) (by simp) ?_ | skip); (repeat (refine Yz ?_)); (first | refine h9 _ _ (Ys ?_)); clear h9 K9) | refine Y6 ?_ | (refine Y8 fun K hK => ?_) | refine Y9 ?_ | (apply hK; clear hK K) | (refine Yb rfl (fun hcnd => ?_) (fun hcnd => ?_) <;> (try simp at hcnd) <;> (try contradiction) <;> (try (exfalso; omega))) | refine Yc ?_ | (refine Ye ?_; refine Yf ?_) | refine Yg ?_ | (simp only [X0, X1, X2, X3, X4, X5, X6, Nat.reduceBEq]) | (clear hK K; first | (apply hK; clear hK K) | (clear hK K; first | (apply hK; clear hK K) | (clear hK K; first | (apply hK; clear hK K) | (clear hK K; apply hK; clear hK K)))))
    exact .pure .int
  · exact .int

theorem rsigners_call (s : Pg) (q : Qu) (hq : WA q.issuers) : PCall Try.prog 17 [.agg s.c, .agg q.c] (ansV ((if s.lists then [⟨s.issuer, s.key⟩] else []) ++ q.issuers)) := by
  have hl : (q.issuers.flatMap An.c).length = q.issuers.length * 4 := flat_len An.c_len q.issuers
  have hon := flat_one An.c_one q.issuers
  have hp := ans_pures q.issuers
  have hqn := hq.1
  have e : ansV ((if s.lists then [⟨s.issuer, s.key⟩] else []) ++ q.issuers) = .sl ((if s.lists then 1 else 0) + q.issuers.length) ((if s.lists then [nmV s.issuer, .int .i64 s.key.h, .str s.key.id, .str s.key.root] else []) ++ q.issuers.flatMap An.c) := by
    unfold ansV
    cases s.lists <;> simp [An.c]
    omega
  rw [e]
  rw [Pg.c.eq_1, Qu.c.eq_1]
  unfold ansV at *
  have hA := nmV_one s.issuer
  have hA2 := nmV_pure s.issuer
  generalize nmV s.issuer = A at *
  generalize q.issuers.flatMap An.c = cells at *
  refine pcall_body Try.func17 rfl Try.call17 ?_ ?_
  rotate_left 1
  refine awp_slots (s' := [(.agg [A, .int .i64 s.key.h, .str s.key.id, .str s.key.root, .bool s.lists, .int .i64 s.len, .int .i64 s.expl, .int .i64 s.map, .int .i64 s.any, sbsV s.names] : V), (.agg [.int .i64 q.time, .str q.purpose, .int .i64 q.usage, strV q.policies, .bool q.expl, .bool q.nomap, .bool q.noany, gnsV q.names, .int .i64 q.maxlen, .bool q.status, .sl q.issuers.length cells] : V), .junk, .junk, .junk, .junk, .junk, .junk, .junk, .junk, .junk, .junk, .junk, .junk, .junk, .junk, .junk, .junk, .junk, .junk]) rfl ?_
  cases hls : s.lists
  · repeat' (first | (refine Y0 rfl fun K9 h9 => ?_; simp (disch := (first | (simp; done) | omega | (simp; omega))) [hls, hA, hA2, hon, hl]; (try simp (disch := (first | omega | (simp; omega))) only [X7, X8, X9, Xa, Xb, Xc]); (repeat (refine Yz ?_)); (first | refine h9 _ _ (Ys ?_)); clear h9 K9) | refine Y6 ?_ | (refine Y8 fun K hK => ?_) | refine Y9 ?_ | (apply hK; clear hK K) | (refine Yb rfl (fun hcnd => ?_) (fun hcnd => ?_) <;> (try simp at hcnd) <;> (try contradiction) <;> (try (exfalso; omega))) | refine Yc ?_ | (refine Ye ?_; refine Yf ?_) | refine Yg ?_ | (simp only [X0, X1, X2, X3, X4, X5, X6, Nat.reduceBEq]) | (clear hK K; first | (apply hK; clear hK K) | (clear hK K; first | (apply hK; clear hK K) | (clear hK K; first | (apply hK; clear hK K) | (clear hK K; apply hK; clear hK K)))))
    simp
    exact view_row rfl (by omega) hp
  · repeat' (first | (refine Y0 rfl fun K9 h9 => ?_; simp (disch := (first | (simp; done) | omega | (simp; omega))) [hls, hA, hA2, hon, hl]; (try simp (disch := (first | omega | (simp; omega))) only [X7, X8, X9, Xa, Xb, Xc]); (repeat (refine Yz ?_)); (first | refine h9 _ _ (Ys ?_)); clear h9 K9) | refine Y6 ?_ | (refine Y8 fun K hK => ?_) | refine Y9 ?_ | (apply hK; clear hK K) | (refine Yb rfl (fun hcnd => ?_) (fun hcnd => ?_) <;> (try simp at hcnd) <;> (try contradiction) <;> (try (exfalso; omega))) | refine Yc ?_ | (refine Ye ?_; refine Yf ?_) | refine Yg ?_ | (simp only [X0, X1, X2, X3, X4, X5, X6, Nat.reduceBEq]) | (clear hK K; first | (apply hK; clear hK K) | (clear hK K; first | (apply hK; clear hK K) | (clear hK K; first | (apply hK; clear hK K) | (clear hK K; apply hK; clear hK K)))))
    simp
    exact view_row rfl (by simp [hl]; omega) (by simp [hA2]; exact hp)
  exact .sl
end Go.Proofs.Ytjlifjmjnhdcmaa
