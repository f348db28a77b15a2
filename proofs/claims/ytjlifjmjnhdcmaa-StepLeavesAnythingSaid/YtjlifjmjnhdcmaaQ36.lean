/-
  STEP: Critical.
  Conditions: none.
-/
import Derived.Test.YtjlifjmjnhdcmaaQ34
import Derived.Test.YtjlifjmjnhdcmaaGl
set_option linter.all false
namespace Go.Proofs.Ytjlifjmjnhdcmaa
open Go.VS Go.Stp
set_option linter.all false
set_option maxRecDepth 100000
set_option maxHeartbeats 16000000
attribute [local irreducible] arun arunD arunU AWp aend
def critI (l : List Ex) : Int := if l.any Ex.crit then 12 else 0

theorem take_get {l r : List V} {n k : Nat} (h : (l.drop n).take k = r) (j : Nat) (hj : j < r.length) : ∀ hq, l[n + j]'(hq) = r[j] := by
  intro hq
  subst h
  simp

theorem ecrit_call (x : Ex) : PCall Try.prog 60 [.agg [.str x.id, .bool x.crit, .str x.v]] (.bool x.crit) := by
  refine pcall_body Try.func60 rfl Try.call60 ?_ ?_
  rotate_left 1
  refine awp_slots (s' := [(.agg [.str x.id, .bool x.crit, .str x.v] : V), .junk, .junk, .junk, .junk]) rfl ?_
  repeat' (first | (refine Y0 rfl fun K9 h9 => ?_; simp (disch := (first | (simp; done) | omega | (simp; omega))); (try simp (disch := (first | omega | (simp; omega))) only [X7, X8, X9, Xa, Xb, Xc]); ((repeat (refine Yz ?_)); (first | refine h9 _ _ (Ys ?_)); clear h9 K9)) | refine Y6 ?_ | (refine Y8 fun K hK => ?_) | refine Y9 ?_ | (apply hK; clear hK K) | (refine Ye ?_; refine Yf ?_) | refine Yg ?_ | (simp only [X0, X1, X2, X3, X4, X5, X6, Nat.reduceBEq]) | (clear hK K; first | (apply hK; clear hK K) | (clear hK K; first | (apply hK; clear hK K) | (clear hK K; first | (apply hK; clear hK K) | (clear hK K; apply hK; clear hK K)))))
  · exact .pure .bool
  · exact .bool

theorem eindex_call (l : List Ex) (hl : l.length ≤ 65536) : PCall Try.prog 79 [exsV l, .fn (.func 60) []] (.int .i64 (findI Ex.crit l)) := by
  unfold exsV
  have hll : (l.flatMap Ex.c).length = l.length * 3 := exs_len l
  have hcells := exs_at l
  refine pcall_body Try.func79 rfl Try.call79 ?_ ?_
  rotate_left 1
  refine awp_slots (s' := [(.sl l.length (l.flatMap Ex.c) : V), (.fn (.func 60) [] : V), .junk, .junk, .junk, .junk, .junk, .junk, .junk, .junk, .junk, .junk, .junk, .junk, .junk, .junk, .junk, .junk, .junk]) rfl ?_
  generalize l.flatMap Ex.c = cells at *
  repeat' (first | (refine Y0 rfl fun K9 h9 => ?_; simp (disch := (first | (simp; done) | omega | (simp; omega))); (try simp (disch := (first | omega | (simp; omega))) only [X7, X8, X9, Xa, Xb, Xc]); ((repeat (refine Yz ?_)); (first | refine h9 _ _ (Ys ?_)); clear h9 K9)) | refine Y6 ?_ | (refine Y8 fun K hK => ?_) | refine Y9 ?_ | (apply hK; clear hK K) | refine Ya ?_ | (refine Yb rfl (fun hcnd => ?_) (fun hcnd => ?_) <;> (try simp at hcnd) <;> (try contradiction) <;> (try (exfalso; omega))) | refine Yc ?_ | (refine Yd ?_; simp only [X0, X1, X2, X3, X4, X5, X6, Nat.reduceBEq]) | (refine Ye ?_; refine Yf ?_) | refine Yg ?_ | (simp only [X0, X1, X2, X3, X4, X5, X6, Nat.reduceBEq]) | (clear hK K; first | (apply hK; clear hK K) | (clear hK K; first | (apply hK; clear hK K) | (clear hK K; first | (apply hK; clear hK K) | (clear hK K; apply hK; clear hK K)))))
  · refine awp_loopU (α := Nat) (fun i => [none, none, none, none, some V.junk, some V.junk, some V.junk, none, some (V.int .i64 i), some V.junk, some V.junk, some V.junk, some V.junk, some V.junk, some V.junk, some V.junk, some V.junk, some V.junk, some V.junk]) (fun i => []) (fun i => i ≤ l.length ∧ ∀ j (h : j < l.length), j < i → Ex.crit l[j] = false) (fun i => l.length - i) 0 ⟨by omega, fun j _ h => by omega⟩ ?_ ?_
    · dsimp only [ups_some, ups_none, ups_nil, ups_nil']
      exact Yr [] (by simp [rowsOver])
    rintro i ⟨hi, hall⟩ KL hL
    dsimp only [ups_some, ups_none, ups_nil, ups_nil']
    rcases Nat.lt_or_ge i l.length with hi | hi
    · have hstep : Ex.crit l[i] = false → i + 1 ≤ l.length ∧ ∀ j (h : j < l.length), j < i + 1 → Ex.crit l[j] = false := fun hx => ⟨by omega, fun j hj h => by
        rcases Nat.lt_or_ge j i with h3 | h3
        · exact hall j hj h3
        · obtain rfl : j = i := by omega
          exact hx⟩
      have hfound : Ex.crit l[i] = true → findI Ex.crit l = i := fun h => findI_some hi h hall
      have hg := hcells i hi
      obtain ⟨x, hxx⟩ : ∃ x, l[i] = x := ⟨_, rfl⟩
      rw [hxx] at hstep hfound hg
      rw [show x.c = [.str x.id, .bool x.crit, .str x.v] from rfl] at hg
      have hc := ecrit_call x
      cases h1 : x.crit
      · rw [h1] at hc hg
        repeat' (first | (refine Y0 rfl fun K9 h9 => ?_; simp (disch := (first | (simp; done) | omega | (simp; omega))) [hg]; (try simp (disch := (first | omega | (simp; omega))) only [X7, X8, X9, Xa, Xb, Xc]); ((first | refine acall_pure (hc) (by simp) ?_ | skip) <;> ((repeat (refine Yz ?_)); (first | refine h9 _ _ (Ys ?_)); clear h9 K9))) | refine Y6 ?_ | (refine Y8 fun K hK => ?_) | refine Y9 ?_ | (apply hK; clear hK K) | refine Ya ?_ | (refine Yb rfl (fun hcnd => ?_) (fun hcnd => ?_) <;> (try simp at hcnd) <;> (try contradiction) <;> (try (exfalso; omega))) | refine Yc ?_ | (refine Yd ?_; simp only [X0, X1, X2, X3, X4, X5, X6, Nat.reduceBEq]) | (refine Ye ?_; refine Yf ?_) | refine Yg ?_ | (simp only [X0, X1, X2, X3, X4, X5, X6, Nat.reduceBEq]) | (clear hK K; first | (apply hK; clear hK K) | (clear hK K; first | (apply hK; clear hK K) | (clear hK K; first | (apply hK; clear hK K) | (clear hK K; apply hK; clear hK K)))))
        refine hL (i + 1) _ _ (hstep h1) (by omega) ?_
        exact Yr [] (by simp [rowsOver])
      · rw [h1] at hc hg
        repeat' (first | (refine Y0 rfl fun K9 h9 => ?_; simp (disch := (first | (simp; done) | omega | (simp; omega))) [hg]; (try simp (disch := (first | omega | (simp; omega))) only [X7, X8, X9, Xa, Xb, Xc]); ((first | refine acall_pure (hc) (by simp) ?_ | skip) <;> ((repeat (refine Yz ?_)); (first | refine h9 _ _ (Ys ?_)); clear h9 K9))) | refine Y6 ?_ | (refine Y8 fun K hK => ?_) | refine Y9 ?_ | (apply hK; clear hK K) | refine Ya ?_ | (refine Yb rfl (fun hcnd => ?_) (fun hcnd => ?_) <;> (try simp at hcnd) <;> (try contradiction) <;> (try (exfalso; omega))) | refine Yc ?_ | (refine Yd ?_; simp only [X0, X1, X2, X3, X4, X5, X6, Nat.reduceBEq]) | (refine Ye ?_; refine Yf ?_) | refine Yg ?_ | (simp only [X0, X1, X2, X3, X4, X5, X6, Nat.reduceBEq]) | (clear hK K; first | (apply hK; clear hK K) | (clear hK K; first | (apply hK; clear hK K) | (clear hK K; first | (apply hK; clear hK K) | (clear hK K; apply hK; clear hK K)))))
        rw [hfound h1]
        exact .pure .int
    · repeat' (first | (refine Y0 rfl fun K9 h9 => ?_; simp (disch := (first | (simp; done) | omega | (simp; omega))); (try simp (disch := (first | omega | (simp; omega))) only [X7, X8, X9, Xa, Xb, Xc]); ((repeat (refine Yz ?_)); (first | refine h9 _ _ (Ys ?_)); clear h9 K9)) | refine Y6 ?_ | (refine Y8 fun K hK => ?_) | refine Y9 ?_ | (apply hK; clear hK K) | refine Ya ?_ | (refine Yb rfl (fun hcnd => ?_) (fun hcnd => ?_) <;> (try simp at hcnd) <;> (try contradiction) <;> (try (exfalso; omega))) | refine Yc ?_ | (refine Yd ?_; simp only [X0, X1, X2, X3, X4, X5, X6, Nat.reduceBEq]) | (refine Ye ?_; refine Yf ?_) | refine Yg ?_ | (simp only [X0, X1, X2, X3, X4, X5, X6, Nat.reduceBEq]) | (clear hK K; first | (apply hK; clear hK K) | (clear hK K; first | (apply hK; clear hK K) | (clear hK K; first | (apply hK; clear hK K) | (clear hK K; apply hK; clear hK K)))))
      rw [findI_none fun j hj => hall j hj (by omega)]
      exact .pure .int
  · exact .int

theorem econtains_call (l : List Ex) (hl : l.length ≤ 65536) : PCall Try.prog 59 [exsV l, .fn (.func 60) []] (.bool (l.any Ex.crit)) := by
  have hi := eindex_call l hl
  have hg := findI_ge Ex.crit l
  rw [← hg]
  unfold exsV at *
  generalize findI Ex.crit l = r at *
  refine pcall_body Try.func59 rfl Try.call59 ?_ ?_
  rotate_left 1
  refine awp_slots (s' := [(.sl l.length (l.flatMap Ex.c) : V), (.fn (.func 60) [] : V), .junk, .junk, .junk, .junk, .junk, .junk, .junk]) rfl ?_
  repeat' (first | (refine Y0 rfl fun K9 h9 => ?_; simp (disch := (first | (simp; done) | omega | (simp; omega))); (try simp (disch := (first | omega | (simp; omega))) only [X7, X8, X9, Xa, Xb, Xc]); ((first | refine acall_pure (hi) (by simp) ?_ | skip) <;> ((repeat (refine Yz ?_)); (first | refine h9 _ _ (Ys ?_)); clear h9 K9))) | refine Y6 ?_ | (refine Y8 fun K hK => ?_) | refine Y9 ?_ | (apply hK; clear hK K) | (refine Ye ?_; refine Yf ?_) | refine Yg ?_ | (simp only [X0, X1, X2, X3, X4, X5, X6, Nat.reduceBEq]) | (clear hK K; first | (apply hK; clear hK K) | (clear hK K; first | (apply hK; clear hK K) | (clear hK K; first | (apply hK; clear hK K) | (clear hK K; apply hK; clear hK K)))))
  · exact .pure .bool
  · exact .bool

theorem critical_call (c : Ce) (hl : c.info.unk.length ≤ 65536) : PCall Try.prog 30 [.agg c.c] (.int .i64 (critI c.info.unk)) := by
  have hi := econtains_call c.info.unk hl
  have hcp := c.c_pures
  rw [Ce.c.eq_1 c]
  unfold critI
  refine pcall_body Try.func30 rfl Try.call30 ?_ ?_
  rotate_left 1
  refine awp_slots (s' := [(.agg [.str c.raw, .str c.tbs, .int .i64 c.serial, nmV c.issuer, nmV c.subject, .int .i64 c.nb, .int .i64 c.na, .int .i64 c.key.h, .str c.key.id, .str c.key.root, .bool c.info.basic, .bool c.info.ca, .int .i64 c.info.plen, .int .i64 c.info.usage, strV c.info.purposes, strV c.info.policies, mpsV c.info.maps, .int .i64 c.info.rexp, .int .i64 c.info.imap, .int .i64 c.info.iany, gnsV c.info.names, .bool c.info.hasC, gnsV c.info.cons.p, gnsV c.info.cons.x, .str c.info.sk, .str c.info.ak, ptsV c.info.points, ptsV c.info.fresh, exsV c.info.unk, .str c.sig] : V), .junk, .junk, .junk, .junk, .junk, .junk]) rfl ?_
  cases h : c.info.unk.any Ex.crit
  · rw [h] at hi
    repeat' (first | (refine Y0 rfl fun K9 h9 => ?_; simp (disch := (first | (simp; done) | omega | (simp; omega))); (try simp (disch := (first | omega | (simp; omega))) only [X7, X8, X9, Xa, Xb, Xc]); ((first | refine acall_pure (hi) (by simp) ?_ | skip) <;> ((repeat (refine Yz ?_)); (first | refine h9 _ _ (Ys ?_)); clear h9 K9))) | refine Y6 ?_ | (refine Y8 fun K hK => ?_) | refine Y9 ?_ | (apply hK; clear hK K) | (refine Yb rfl (fun hcnd => ?_) (fun hcnd => ?_) <;> (try simp at hcnd) <;> (try contradiction) <;> (try (exfalso; omega))) | refine Yc ?_ | (refine Ye ?_; refine Yf ?_) | refine Yg ?_ | (simp only [X0, X1, X2, X3, X4, X5, X6, Nat.reduceBEq]) | (clear hK K; first | (apply hK; clear hK K) | (clear hK K; first | (apply hK; clear hK K) | (clear hK K; first | (apply hK; clear hK K) | (clear hK K; apply hK; clear hK K)))))
    simp
    exact .pure .int
  · rw [h] at hi
    repeat' (first | (refine Y0 rfl fun K9 h9 => ?_; simp (disch := (first | (simp; done) | omega | (simp; omega))); (try simp (disch := (first | omega | (simp; omega))) only [X7, X8, X9, Xa, Xb, Xc]); ((first | refine acall_pure (hi) (by simp) ?_ | skip) <;> ((repeat (refine Yz ?_)); (first | refine h9 _ _ (Ys ?_)); clear h9 K9))) | refine Y6 ?_ | (refine Y8 fun K hK => ?_) | refine Y9 ?_ | (apply hK; clear hK K) | (refine Yb rfl (fun hcnd => ?_) (fun hcnd => ?_) <;> (try simp at hcnd) <;> (try contradiction) <;> (try (exfalso; omega))) | refine Yc ?_ | (refine Ye ?_; refine Yf ?_) | refine Yg ?_ | (simp only [X0, X1, X2, X3, X4, X5, X6, Nat.reduceBEq]) | (clear hK K; first | (apply hK; clear hK K) | (clear hK K; first | (apply hK; clear hK K) | (clear hK K; first | (apply hK; clear hK K) | (clear hK K; apply hK; clear hK K)))))
    simp
    exact .pure .int
  exact .int

theorem rcritical_call (c : Ce) (hl : c.info.unk.length ≤ 65536) : PCall Try.prog 31 [.agg c.c] (.int .i64 (critI c.info.unk)) := by
  have hll := exs_len c.info.unk
  have hcells := exs_at c.info.unk
  have hcp := c.c_pures
  have e := Ce.c.eq_1 c
  rw [show exsV c.info.unk = .sl c.info.unk.length (c.info.unk.flatMap Ex.c) from rfl] at e
  rw [e]
  clear e hcp
  obtain ⟨R, hR⟩ : ∃ R, critI c.info.unk = R := ⟨_, rfl⟩
  rw [hR]
  generalize c.info.unk.flatMap Ex.c = cells at *
  refine pcall_body Try.func31 rfl Try.call31 ?_ ?_
  rotate_left 1
  refine awp_slots (s' := [(.agg [.str c.raw, .str c.tbs, .int .i64 c.serial, nmV c.issuer, nmV c.subject, .int .i64 c.nb, .int .i64 c.na, .int .i64 c.key.h, .str c.key.id, .str c.key.root, .bool c.info.basic, .bool c.info.ca, .int .i64 c.info.plen, .int .i64 c.info.usage, strV c.info.purposes, strV c.info.policies, mpsV c.info.maps, .int .i64 c.info.rexp, .int .i64 c.info.imap, .int .i64 c.info.iany, gnsV c.info.names, .bool c.info.hasC, gnsV c.info.cons.p, gnsV c.info.cons.x, .str c.info.sk, .str c.info.ak, ptsV c.info.points, ptsV c.info.fresh, .sl c.info.unk.length cells, .str c.sig] : V), .junk, .junk, .junk, .junk, .junk, .junk, .junk, .junk, .junk, .junk, .junk, .junk, .junk, .junk, .junk, .junk, .junk, .junk]) rfl ?_
  repeat' (first | (refine Y0 rfl fun K9 h9 => ?_; simp (disch := (first | (simp; done) | omega | (simp; omega))); (try simp (disch := (first | omega | (simp; omega))) only [X7, X8, X9, Xa, Xb, Xc]); ((repeat (refine Yz ?_)); (first | refine h9 _ _ (Ys ?_)); clear h9 K9)) | refine Y6 ?_ | (refine Y8 fun K hK => ?_) | refine Y9 ?_ | (apply hK; clear hK K) | refine Ya ?_ | (refine Yb rfl (fun hcnd => ?_) (fun hcnd => ?_) <;> (try simp at hcnd) <;> (try contradiction) <;> (try (exfalso; omega))) | refine Yc ?_ | (refine Yd ?_; simp only [X0, X1, X2, X3, X4, X5, X6, Nat.reduceBEq]) | (refine Ye ?_; refine Yf ?_) | refine Yg ?_ | (simp only [X0, X1, X2, X3, X4, X5, X6, Nat.reduceBEq]) | (clear hK K; first | (apply hK; clear hK K) | (clear hK K; first | (apply hK; clear hK K) | (clear hK K; first | (apply hK; clear hK K) | (clear hK K; apply hK; clear hK K)))))
  · refine awp_loopU (α := Nat) (fun i => [some V.junk, none, some V.junk, some (V.int .i64 i), some V.junk, some V.junk, some V.junk, some V.junk, some V.junk, some V.junk, some V.junk, some V.junk, some V.junk, some V.junk, some V.junk, some V.junk, some V.junk, some V.junk, some V.junk]) (fun i => [.live [.str c.raw, .str c.tbs, .int .i64 c.serial, nmV c.issuer, nmV c.subject, .int .i64 c.nb, .int .i64 c.na, .int .i64 c.key.h, .str c.key.id, .str c.key.root, .bool c.info.basic, .bool c.info.ca, .int .i64 c.info.plen, .int .i64 c.info.usage, strV c.info.purposes, strV c.info.policies, mpsV c.info.maps, .int .i64 c.info.rexp, .int .i64 c.info.imap, .int .i64 c.info.iany, gnsV c.info.names, .bool c.info.hasC, gnsV c.info.cons.p, gnsV c.info.cons.x, .str c.info.sk, .str c.info.ak, ptsV c.info.points, ptsV c.info.fresh, .sl c.info.unk.length cells, .str c.sig]]) (fun i => i ≤ c.info.unk.length ∧ ∀ j (h : j < c.info.unk.length), j < i → Ex.crit c.info.unk[j] = false) (fun i => c.info.unk.length - i) 0 ⟨by omega, fun j _ h => by omega⟩ ?_ ?_
    · dsimp only [ups_some, ups_none, ups_nil, ups_nil']
      exact Yr [some 0] (by simp [rowsOver])
    rintro i ⟨hi, hall⟩ KL hL
    dsimp only [ups_some, ups_none, ups_nil, ups_nil']
    rcases Nat.lt_or_ge i c.info.unk.length with hi | hi
    · have hstep : Ex.crit c.info.unk[i] = false → i + 1 ≤ c.info.unk.length ∧ ∀ j (h : j < c.info.unk.length), j < i + 1 → Ex.crit c.info.unk[j] = false := fun hx => ⟨by omega, fun j hj h => by
        rcases Nat.lt_or_ge j i with h3 | h3
        · exact hall j hj h3
        · obtain rfl : j = i := by omega
          exact hx⟩
      have hfound : Ex.crit c.info.unk[i] = true → R = 12 := fun h => by
        rw [← hR]
        unfold critI
        rw [if_pos (List.any_eq_true.2 ⟨_, List.getElem_mem hi, h⟩)]
      have hg := hcells i hi
      obtain ⟨x, hxx⟩ : ∃ x, c.info.unk[i] = x := ⟨_, rfl⟩
      rw [hxx] at hstep hfound hg
      rw [show x.c = [.str x.id, .bool x.crit, .str x.v] from rfl] at hg
      have hg1 := take_get hg 1 (by simp)
      dsimp only [List.getElem_cons_succ, List.getElem_cons_zero] at hg1
      cases h1 : x.crit
      · rw [h1] at hg hg1
        repeat' (first | (refine Y0 rfl fun K9 h9 => ?_; simp (disch := (first | (simp; done) | omega | (simp; omega))) [hll, hg, hg1]; (try simp (disch := (first | omega | (simp; omega))) only [X7, X8, X9, Xa, Xb, Xc]); ((repeat (refine Yz ?_)); (first | refine h9 _ _ (Ys ?_)); clear h9 K9)) | refine Y6 ?_ | (refine Y8 fun K hK => ?_) | refine Y9 ?_ | (apply hK; clear hK K) | refine Ya ?_ | (refine Yb rfl (fun hcnd => ?_) (fun hcnd => ?_) <;> (try simp at hcnd) <;> (try contradiction) <;> (try (exfalso; omega))) | refine Yc ?_ | (refine Yd ?_; simp only [X0, X1, X2, X3, X4, X5, X6, Nat.reduceBEq]) | (refine Ye ?_; refine Yf ?_) | refine Yg ?_ | (simp only [X0, X1, X2, X3, X4, X5, X6, Nat.reduceBEq]) | (clear hK K; first | (apply hK; clear hK K) | (clear hK K; first | (apply hK; clear hK K) | (clear hK K; first | (apply hK; clear hK K) | (clear hK K; apply hK; clear hK K)))))
        refine hL (i + 1) _ _ (hstep h1) (by omega) ?_
        exact Yr [some 0] (by simp [rowsOver])
      · rw [h1] at hg hg1
        repeat' (first | (refine Y0 rfl fun K9 h9 => ?_; simp (disch := (first | (simp; done) | omega | (simp; omega))) [hll, hg, hg1]; (try simp (disch := (first | omega | (simp; omega))) only [X7, X8, X9, Xa, Xb, Xc]); ((repeat (refine Yz ?_)); (first | refine h9 _ _ (Ys ?_)); clear h9 K9)) | refine Y6 ?_ | (refine Y8 fun K hK => ?_) | refine Y9 ?_ | (apply hK; clear hK K) | refine Ya ?_ | (refine Yb rfl (fun hcnd => ?_) (fun hcnd => ?_) <;> (try simp at hcnd) <;> (try contradiction) <;> (try (exfalso; omega))) | refine Yc ?_ | (refine Yd ?_; simp only [X0, X1, X2, X3, X4, X5, X6, Nat.reduceBEq]) | (refine Ye ?_; refine Yf ?_) | refine Yg ?_ | (simp only [X0, X1, X2, X3, X4, X5, X6, Nat.reduceBEq]) | (clear hK K; first | (apply hK; clear hK K) | (clear hK K; first | (apply hK; clear hK K) | (clear hK K; first | (apply hK; clear hK K) | (clear hK K; apply hK; clear hK K)))))
        rw [hfound h1]
        exact .pure .int
    · clear hL
      have hz : R = 0 := by
        rw [← hR]
        unfold critI
        rw [if_neg]
        intro h
        obtain ⟨x, hx, h2⟩ := List.any_eq_true.1 h
        obtain ⟨j, hj, rfl⟩ := List.getElem_of_mem hx
        rw [hall j hj (by omega)] at h2
        exact absurd h2 (by simp)
      subst hz
      repeat' (first | (refine Y0 rfl fun K9 h9 => ?_; simp (disch := (first | (simp; done) | omega | (simp; omega))); (try simp (disch := (first | omega | (simp; omega))) only [X7, X8, X9, Xa, Xb, Xc]); ((repeat (refine Yz ?_)); (first | refine h9 _ _ (Ys ?_)); clear h9 K9)) | refine Y6 ?_ | (refine Y8 fun K hK => ?_) | refine Y9 ?_ | (apply hK; clear hK K) | refine Ya ?_ | (refine Yb rfl (fun hcnd => ?_) (fun hcnd => ?_) <;> (try simp at hcnd) <;> (try contradiction) <;> (try (exfalso; omega))) | refine Yc ?_ | (refine Yd ?_; simp only [X0, X1, X2, X3, X4, X5, X6, Nat.reduceBEq]) | (refine Ye ?_; refine Yf ?_) | refine Yg ?_ | (simp only [X0, X1, X2, X3, X4, X5, X6, Nat.reduceBEq]) | (clear hK K; first | (apply hK; clear hK K) | (clear hK K; first | (apply hK; clear hK K) | (clear hK K; first | (apply hK; clear hK K) | (clear hK K; apply hK; clear hK K)))))
      try simp
      exact .pure .int
  · exact .int

theorem final_any (s : Pg) (c : Ce) (h' : s.expl ≤ 9223372036854775807) : PCall Try.prog 26 [.agg s.c, .agg c.c] (.int .i64 (finalS s c)) := by
  have hcp := c.c_pures
  have e := Pg.c.eq_1 s
  have e2 := Ce.c.eq_1 c
  rw [e, e2]
  generalize nmV s.issuer = v1 at *
  generalize sbsV s.names = v2 at *
  refine pcall_body Try.func26 rfl Try.call26 ?_ ?_
  rotate_left 1
  refine awp_slots (s' := [(.agg [v1, .int .i64 s.key.h, .str s.key.id, .str s.key.root, .bool s.lists, .int .i64 s.len, .int .i64 s.expl, .int .i64 s.map, .int .i64 s.any, v2] : V), (.agg [.str c.raw, .str c.tbs, .int .i64 c.serial, nmV c.issuer, nmV c.subject, .int .i64 c.nb, .int .i64 c.na, .int .i64 c.key.h, .str c.key.id, .str c.key.root, .bool c.info.basic, .bool c.info.ca, .int .i64 c.info.plen, .int .i64 c.info.usage, strV c.info.purposes, strV c.info.policies, mpsV c.info.maps, .int .i64 c.info.rexp, .int .i64 c.info.imap, .int .i64 c.info.iany, gnsV c.info.names, .bool c.info.hasC, gnsV c.info.cons.p, gnsV c.info.cons.x, .str c.info.sk, .str c.info.ak, ptsV c.info.points, ptsV c.info.fresh, exsV c.info.unk, .str c.sig] : V), .junk, .junk, .junk, .junk, .junk, .junk, .junk, .junk, .junk, .junk, .junk, .junk, .junk, .junk, .junk, .junk, .junk]) rfl ?_
  unfold finalS
  by_cases h1 : c.info.rexp = 0
  · rw [if_pos h1]
    repeat' (first | (refine Y0 rfl fun K9 h9 => ?_; simp (disch := (first | (simp; done) | omega | (simp; omega))) [h1]; (try simp (disch := (first | omega | (simp; omega))) only [X7, X8, X9, Xa, Xb, Xc]); ((repeat (refine Yz ?_)); (first | refine h9 _ _ (Ys ?_)); clear h9 K9)) | refine Y6 ?_ | (refine Y8 fun K hK => ?_) | refine Y9 ?_ | (apply hK; clear hK K) | refine Ya ?_ | (refine Yb rfl (fun hcnd => ?_) (fun hcnd => ?_) <;> (try simp at hcnd) <;> (try contradiction) <;> (try (exfalso; omega))) | refine Yc ?_ | (refine Ye ?_; refine Yf ?_) | refine Yg ?_ | (simp only [X0, X1, X2, X3, X4, X5, X6, Nat.reduceBEq]) | (clear hK K; first | (apply hK; clear hK K) | (clear hK K; first | (apply hK; clear hK K) | (clear hK K; first | (apply hK; clear hK K) | (clear hK K; apply hK; clear hK K)))))
    exact .pure .int
  rw [if_neg h1]
  by_cases h2 : 0 < s.expl
  · rw [if_pos h2]
    repeat' (first | (refine Y0 rfl fun K9 h9 => ?_; simp (disch := (first | (simp; done) | omega | (simp; omega))) [h1, h2]; (try simp (disch := (first | omega | (simp; omega))) only [X7, X8, X9, Xa, Xb, Xc]); ((repeat (refine Yz ?_)); (first | refine h9 _ _ (Ys ?_)); clear h9 K9)) | refine Y6 ?_ | (refine Y8 fun K hK => ?_) | refine Y9 ?_ | (apply hK; clear hK K) | refine Ya ?_ | (refine Yb rfl (fun hcnd => ?_) (fun hcnd => ?_) <;> (try simp at hcnd) <;> (try contradiction) <;> (try (exfalso; omega))) | refine Yc ?_ | (refine Ye ?_; refine Yf ?_) | refine Yg ?_ | (simp only [X0, X1, X2, X3, X4, X5, X6, Nat.reduceBEq]) | (clear hK K; first | (apply hK; clear hK K) | (clear hK K; first | (apply hK; clear hK K) | (clear hK K; first | (apply hK; clear hK K) | (clear hK K; apply hK; clear hK K)))))
    exact .pure .int
  rw [if_neg h2]
  repeat' (first | (refine Y0 rfl fun K9 h9 => ?_; simp (disch := (first | (simp; done) | omega | (simp; omega))) [h1, h2]; (try simp (disch := (first | omega | (simp; omega))) only [X7, X8, X9, Xa, Xb, Xc]); ((repeat (refine Yz ?_)); (first | refine h9 _ _ (Ys ?_)); clear h9 K9)) | refine Y6 ?_ | (refine Y8 fun K hK => ?_) | refine Y9 ?_ | (apply hK; clear hK K) | refine Ya ?_ | (refine Yb rfl (fun hcnd => ?_) (fun hcnd => ?_) <;> (try simp at hcnd) <;> (try contradiction) <;> (try (exfalso; omega))) | refine Yc ?_ | (refine Ye ?_; refine Yf ?_) | refine Yg ?_ | (simp only [X0, X1, X2, X3, X4, X5, X6, Nat.reduceBEq]) | (clear hK K; first | (apply hK; clear hK K) | (clear hK K; first | (apply hK; clear hK K) | (clear hK K; first | (apply hK; clear hK K) | (clear hK K; apply hK; clear hK K)))))
  · exact .pure .int
  · exact .int
end Go.Proofs.Ytjlifjmjnhdcmaa
