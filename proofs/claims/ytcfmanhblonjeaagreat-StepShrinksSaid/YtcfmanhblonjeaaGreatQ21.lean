/-
  STEP: values compared with themselves.
  Conditions: none.
-/
import Derived.Test.YtcfmanhblonjeaaGreatGe
import Derived.Test.YtcfmanhblonjeaaGreatGf
import Derived.Test.YtcfmanhblonjeaaGreatGg
import Derived.Test.YtcfmanhblonjeaaGreatGh
import Derived.Test.YtcfmanhblonjeaaGreatGj
import Derived.Test.YtcfmanhblonjeaaGreatGl
import Derived.Test.YtcfmanhblonjeaaGreatTab
import Derived.Test.YtcfmanhblonjeaaGreatGd
import Derived.Test.YtcfmanhblonjeaaGreatGi
namespace Go.Stp
open Go.VS
theorem take3_at {l : List V} {n : Nat} {a b c : V} (h : (l.drop n).take 3 = [a, b, c]) : ∃ h : n + 2 < l.length, l[n] = a ∧ l[n + 1] = b ∧ l[n + 2] = c := by
  have h0 : ∀ i, i < 3 → l[n + i]? = [a, b, c][i]? := fun i hi => by rw [← h, List.getElem?_take, if_pos hi, List.getElem?_drop]
  obtain ⟨q2, e2⟩ := List.getElem?_eq_some_iff.1 (h0 2 (by omega))
  obtain ⟨q1, e1⟩ := List.getElem?_eq_some_iff.1 (h0 1 (by omega))
  obtain ⟨q0, e0⟩ := List.getElem?_eq_some_iff.1 (h0 0 (by omega))
  exact ⟨q2, e0, e1, e2⟩
end Go.Stp
namespace Go.Proofs.YtcfmanhblonjeaaGreat
open Go.VS Go.Stp
set_option linter.all false
set_option maxRecDepth 100000
set_option maxHeartbeats 8000000
theorem aeq_at (a a' : Int) (b c b' c' : List UInt8) : aeq Tryz.prog 20 95 (.agg [.str b, .int .i64 a, .str c]) (.agg [.str b', .int .i64 a', .str c']) = some (b == b' && (a == a' && c == c')) := by
  rw [aeq_agg [(true, 9, 0), (true, 3, 1), (true, 9, 2)] (by kernel_rfl)]
  have u1 : uagg Tryz.prog 3 = some false := by kernel_rfl
  have u2 : uagg Tryz.prog 9 = some false := by kernel_rfl
  have e1 : aeq Tryz.prog 19 3 (.int .i64 a) (.int .i64 a') = some (a == a') := aeq_int (by kernel_rfl)
  have e2 : aeq Tryz.prog 19 9 (.str b) (.str b') = some (b == b') := aeq_str (by kernel_rfl)
  have e3 : aeq Tryz.prog 19 9 (.str c) (.str c') = some (c == c') := aeq_str (by kernel_rfl)
  simp only [aeqL, opart, u1, u2, if_true]
  simp only [List.getElem?_cons_zero, List.getElem?_cons_succ, e1, e2, e3]
  cases a == a' <;> cases b == b' <;> cases c == c' <;> rfl
theorem aeq_ky (a a' : Int) (b c b' c' : List UInt8) : aeq Tryz.prog 20 29 (.agg [.int .i64 a, .str b, .str c]) (.agg [.int .i64 a', .str b', .str c']) = some (a == a' && (b == b' && c == c')) := by
  rw [aeq_agg [(true, 3, 0), (true, 9, 1), (true, 9, 2)] (by kernel_rfl)]
  have u1 : uagg Tryz.prog 3 = some false := by kernel_rfl
  have u2 : uagg Tryz.prog 9 = some false := by kernel_rfl
  have e1 : aeq Tryz.prog 19 3 (.int .i64 a) (.int .i64 a') = some (a == a') := aeq_int (by kernel_rfl)
  have e2 : aeq Tryz.prog 19 9 (.str b) (.str b') = some (b == b') := aeq_str (by kernel_rfl)
  have e3 : aeq Tryz.prog 19 9 (.str c) (.str c') = some (c == c') := aeq_str (by kernel_rfl)
  simp only [aeqL, opart, u1, u2, if_true]
  simp only [List.getElem?_cons_zero, List.getElem?_cons_succ, e1, e2, e3]
  cases a == a' <;> cases b == b' <;> cases c == c' <;> rfl
attribute [local irreducible] arun arunD arunU AWp aend
theorem exname_call (n : Nm) (hn : WN n) : PCall Tryz.prog 28 [.agg [nmV n], .agg [nmV n]] (.bool true) := by
  unfold nmV
  refine pcall_body Tryz.func28 rfl Tryz.call28 ?_ ?_
  rotate_left 1
  refine awp_slots (s' := (.agg [.sl n.length (n.map atsV)] : V) :: (.agg [.sl n.length (n.map atsV)] : V) :: zJ 59) rfl ?_; dsimp only [zJ]
  have hln := hn.1
  repeat' (first | ((first | refine Y0 rfl fun K9 h9 => ?_ | refine Y1 rfl rfl fun K9 h9 => ?_ | refine Y2 rfl rfl fun K9 h9 => ?_); simp (disch := (first | (simp; done) | omega | (simp; omega))); (try simp (disch := (first | omega | (simp; omega))) only [X7]); ((repeat (refine Yz ?_)); (first | refine h9 _ _ (Ys ?_) | refine h9 _ _ (Yt ?_)); clear h9 K9)) | refine Y6 ?_ | refine Y7 ?_ | (refine Y8 fun K hK => ?_) | refine Y9 ?_ | (apply hK; clear hK K) | ((first | refine Yk (m := 0) (by decide +kernel) [] (by kernel_rfl) (by decide +kernel) ?_); dsimp only [List.replicate, List.append_nil, List.cons_append, List.nil_append, List.length_cons, List.length_nil]) | refine Ya ?_ | (refine Yb rfl (fun hcnd => ?_) (fun hcnd => ?_) <;> (try simp at hcnd) <;> (try contradiction) <;> (try (exfalso; omega))) | refine Yc ?_ | (refine Yd ?_; simp only [X0, Nat.reduceBEq]) | (refine Ye ?_; refine Yf ?_) | refine Yg ?_ | (simp only [X0, Nat.reduceBEq]) | clear hK K)
  · refine awp_countU (fun i => (zS 2 (zN 2 (zS 12 (none :: some (V.int .i64 i) :: zS 43 []))))) (fun i => [.live [.sl n.length (n.map atsV)], .live [.sl n.length (n.map atsV)]]) n.length ?_ fun i hi KL hL => ?_
    · dsimp only [ups, zN, zS]
      exact Yr [some 0, some 1] (by simp [rowsOver])
    dsimp only [ups, zN, zS]
    rcases Nat.lt_or_ge i n.length with hi | hi
    · have hx := (hn.2 _ (List.getElem_mem hi)).1
      obtain ⟨x, hxx⟩ : ∃ x, n[i] = x := ⟨_, rfl⟩
      rw [hxx] at hx
      have hxl := ats_len x
      have hcells := ats_at x
      have hax : atsV x = .sl x.length (x.flatMap At.c) := rfl
      generalize x.flatMap At.c = cells at *
      repeat' (first | ((first | refine Y0 rfl fun K9 h9 => ?_ | refine Y1 rfl rfl fun K9 h9 => ?_ | refine Y2 rfl rfl fun K9 h9 => ?_); simp (disch := (first | (simp; done) | omega | (simp; omega))) [hxx, hax]; (try simp (disch := (first | omega | (simp; omega))) only [X7]); ((repeat (refine Yz ?_)); (first | refine h9 _ _ (Ys ?_) | refine h9 _ _ (Yt ?_)); clear h9 K9)) | refine Y6 ?_ | refine Y7 ?_ | (refine Y8 fun K hK => ?_) | refine Y9 ?_ | (apply hK; clear hK K) | ((first | refine Yk (m := 0) (by decide +kernel) [] (by kernel_rfl) (by decide +kernel) ?_); dsimp only [List.replicate, List.append_nil, List.cons_append, List.nil_append, List.length_cons, List.length_nil]) | refine Ya ?_ | (refine Yb rfl (fun hcnd => ?_) (fun hcnd => ?_) <;> (try simp at hcnd) <;> (try contradiction) <;> (try (exfalso; omega))) | refine Yc ?_ | (refine Yd ?_; simp only [X0, Nat.reduceBEq]) | (refine Ye ?_; refine Yf ?_) | refine Yg ?_ | (simp only [X0, Nat.reduceBEq]) | clear hK K)
      refine awp_countU (fun j => (zS 2 (zN 2 (some V.junk :: none :: zS 10 (zN 2 (zS 20 (none :: some (V.int .i64 j) :: zS 21 []))))))) (fun j => [.live [.sl n.length (n.map atsV)], .live [.sl n.length (n.map atsV)]]) x.length ?_ fun j hj KL2 hL2 => ?_
      · dsimp only [ups, zN, zS]
        exact Yr [some 0, some 1] (by simp [rowsOver])
      dsimp only [ups, zN, zS]
      rcases Nat.lt_or_ge j x.length with hj | hj
      · have hg := hcells j hj
        obtain ⟨y, hyy⟩ : ∃ y, x[j] = y := ⟨_, rfl⟩
        rw [hyy] at hg
        rw [show y.c = [.str y.t, .int .i64 y.k, .str y.v] from rfl] at hg
        repeat' (first | ((first | refine Y0 rfl fun K9 h9 => ?_ | refine Y1 rfl rfl fun K9 h9 => ?_ | refine Y2 rfl rfl fun K9 h9 => ?_); simp (disch := (first | (simp; done) | omega | (simp; omega))) [hxx, hax, hg, aeq_at]; (try simp (disch := (first | omega | (simp; omega))) only [X7]); ((repeat (refine Yz ?_)); (first | refine h9 _ _ (Ys ?_) | refine h9 _ _ (Yt ?_)); clear h9 K9)) | refine Y6 ?_ | refine Y7 ?_ | (refine Y8 fun K hK => ?_) | refine Y9 ?_ | (apply hK; clear hK K) | ((first | refine Yk (m := 0) (by decide +kernel) [] (by kernel_rfl) (by decide +kernel) ?_); dsimp only [List.replicate, List.append_nil, List.cons_append, List.nil_append, List.length_cons, List.length_nil]) | refine Ya ?_ | (refine Yb rfl (fun hcnd => ?_) (fun hcnd => ?_) <;> (try simp at hcnd) <;> (try contradiction) <;> (try (exfalso; omega))) | refine Yc ?_ | (refine Yd ?_; simp only [X0, Nat.reduceBEq]) | (refine Ye ?_; refine Yf ?_) | refine Yg ?_ | (simp only [X0, Nat.reduceBEq]) | clear hK K)
        refine hL2 _ _ hj ?_
        exact Yr [some 0, some 1] (by simp [rowsOver])
      · repeat' (first | ((first | refine Y0 rfl fun K9 h9 => ?_ | refine Y1 rfl rfl fun K9 h9 => ?_ | refine Y2 rfl rfl fun K9 h9 => ?_); simp (disch := (first | (simp; done) | omega | (simp; omega))); (try simp (disch := (first | omega | (simp; omega))) only [X7]); ((repeat (refine Yz ?_)); (first | refine h9 _ _ (Ys ?_) | refine h9 _ _ (Yt ?_)); clear h9 K9)) | refine Y6 ?_ | refine Y7 ?_ | (refine Y8 fun K hK => ?_) | refine Y9 ?_ | (apply hK; clear hK K) | ((first | refine Yk (m := 0) (by decide +kernel) [] (by kernel_rfl) (by decide +kernel) ?_); dsimp only [List.replicate, List.append_nil, List.cons_append, List.nil_append, List.length_cons, List.length_nil]) | refine Ya ?_ | (refine Yb rfl (fun hcnd => ?_) (fun hcnd => ?_) <;> (try simp at hcnd) <;> (try contradiction) <;> (try (exfalso; omega))) | refine Yc ?_ | (refine Yd ?_; simp only [X0, Nat.reduceBEq]) | (refine Ye ?_; refine Yf ?_) | refine Yg ?_ | (simp only [X0, Nat.reduceBEq]) | clear hK K)
        refine hL _ _ hi ?_
        exact Yr [some 0, some 1] (by simp [rowsOver])
    · repeat' (first | ((first | refine Y0 rfl fun K9 h9 => ?_ | refine Y1 rfl rfl fun K9 h9 => ?_ | refine Y2 rfl rfl fun K9 h9 => ?_); simp (disch := (first | (simp; done) | omega | (simp; omega))); (try simp (disch := (first | omega | (simp; omega))) only [X7]); ((repeat (refine Yz ?_)); (first | refine h9 _ _ (Ys ?_) | refine h9 _ _ (Yt ?_)); clear h9 K9)) | refine Y6 ?_ | refine Y7 ?_ | (refine Y8 fun K hK => ?_) | refine Y9 ?_ | (apply hK; clear hK K) | ((first | refine Yk (m := 0) (by decide +kernel) [] (by kernel_rfl) (by decide +kernel) ?_); dsimp only [List.replicate, List.append_nil, List.cons_append, List.nil_append, List.length_cons, List.length_nil]) | refine Ya ?_ | (refine Yb rfl (fun hcnd => ?_) (fun hcnd => ?_) <;> (try simp at hcnd) <;> (try contradiction) <;> (try (exfalso; omega))) | refine Yc ?_ | (refine Yd ?_; simp only [X0, Nat.reduceBEq]) | (refine Ye ?_; refine Yf ?_) | refine Yg ?_ | (simp only [X0, Nat.reduceBEq]) | clear hK K)
      exact .pure .bool
  · exact .bool

theorem exgens_call (l : List Gn) (h : WG l) : PCall Tryz.prog 29 [gnsV l, gnsV l] (.bool true) := by
  unfold gnsV
  refine pcall_body Tryz.func29 rfl Tryz.call29 ?_ ?_
  rotate_left 1
  refine awp_slots (s' := (.sl l.length (l.flatMap Gn.c) : V) :: (.sl l.length (l.flatMap Gn.c) : V) :: zJ 53) rfl ?_; dsimp only [zJ]
  have hll := gns_len l
  have hcells := gens_at l
  have hl := h.1
  have hw := h.2
  have hpu := gns_pures l
  generalize l.flatMap Gn.c = cells at *
  repeat' (first | ((first | refine Y0 rfl fun K9 h9 => ?_ | refine Y1 rfl rfl fun K9 h9 => ?_ | refine Y2 rfl rfl fun K9 h9 => ?_ | (refine Y3 ?_ ?_; (focus (simp; done)); intro K9 h9) | ((first | refine Y4 rfl ?_ ?_ | refine Y5 rfl ?_ ?_); (focus (simp; done)); intro K9 h9)); simp (disch := (first | (simp; done) | omega | (simp; omega))); (try simp (disch := (first | omega | (simp; omega))) only [X7]); ((repeat (refine Yz ?_)); (first | refine h9 _ _ (Ys ?_) | refine h9 _ _ (Yt ?_)); clear h9 K9)) | refine Y6 ?_ | refine Y7 ?_ | (refine Y8 fun K hK => ?_) | refine Y9 ?_ | (apply hK; clear hK K) | ((first | refine Yk (m := 0) (by decide +kernel) [] (by kernel_rfl) (by decide +kernel) ?_); dsimp only [List.replicate, List.append_nil, List.cons_append, List.nil_append, List.length_cons, List.length_nil]) | refine Ya ?_ | (refine Yb rfl (fun hcnd => ?_) (fun hcnd => ?_) <;> (try simp at hcnd) <;> (try contradiction) <;> (try (exfalso; omega))) | refine Yc ?_ | (refine Yd ?_; simp only [X0, Nat.reduceBEq]) | (refine Ye ?_; refine Yf ?_) | (refine Yh ?_ ?_; (focus (simp; done)); refine Ys ?_) | ((first | refine Yi rfl ?_ ?_ | refine Yj rfl ?_ ?_); (focus (simp; done)); refine Yt ?_) | refine Yg ?_ | (simp only [X0, Nat.reduceBEq]) | clear hK K)
  · refine awp_countU (fun i => (zN 4 (zS 8 (none :: some (V.int .i64 i) :: zS 41 [])))) (fun i => []) l.length ?_ fun i hi KL hL => ?_
    · dsimp only [ups, zN, zS]
      exact Yr [] (by simp [rowsOver])
    dsimp only [ups, zN, zS]
    rcases Nat.lt_or_ge i l.length with hi | hi
    · have hg := hcells i hi
      have he := exname_call l[i].name (hw _ (List.getElem_mem _)).1
      obtain ⟨x, hxx⟩ : ∃ x, l[i] = x := ⟨_, rfl⟩
      rw [hxx] at hg he
      unfold nmV at he
      rw [show x.c = [.int .i64 x.kind, .str x.text, .sl x.name.length (x.name.map atsV)] from rfl] at hg
      obtain ⟨gb, g0, g1, g2⟩ := take3_at hg
      have g3 : List.take 1 (List.drop (i * 3 + 2) cells) = [V.sl x.name.length (x.name.map atsV)] := by rw [List.drop_eq_getElem_cons gb, g2]; rfl
      repeat' (first | ((first | refine Y0 rfl fun K9 h9 => ?_ | refine Y1 rfl rfl fun K9 h9 => ?_ | refine Y2 rfl rfl fun K9 h9 => ?_ | (refine Y3 ?_ ?_; (focus (simp [hg, g0, g1, g2, g3]; done)); intro K9 h9) | ((first | refine Y4 rfl ?_ ?_ | refine Y5 rfl ?_ ?_); (focus (simp [hg, g0, g1, g2, g3]; done)); intro K9 h9)); simp (disch := (first | (simp; done) | omega | (simp; omega))) [hg, g0, g1, g2, g3]; (try simp (disch := (first | omega | (simp; omega))) only [X7]); ((first | refine acall_pure (he) (by simp) ?_ | skip) <;> ((repeat (refine Yz ?_)); (first | refine h9 _ _ (Ys ?_) | refine h9 _ _ (Yt ?_)); clear h9 K9))) | refine Y6 ?_ | refine Y7 ?_ | (refine Y8 fun K hK => ?_) | refine Y9 ?_ | (apply hK; clear hK K) | ((first | refine Yk (m := 0) (by decide +kernel) [] (by kernel_rfl) (by decide +kernel) ?_); dsimp only [List.replicate, List.append_nil, List.cons_append, List.nil_append, List.length_cons, List.length_nil]) | refine Ya ?_ | (refine Yb rfl (fun hcnd => ?_) (fun hcnd => ?_) <;> (try simp at hcnd) <;> (try contradiction) <;> (try (exfalso; omega))) | refine Yc ?_ | (refine Yd ?_; simp only [X0, Nat.reduceBEq]) | (refine Ye ?_; refine Yf ?_) | (refine Yh ?_ ?_; (focus (simp [hg, g0, g1, g2, g3]; done)); refine Ys ?_) | ((first | refine Yi rfl ?_ ?_ | refine Yj rfl ?_ ?_); (focus (simp [hg, g0, g1, g2, g3]; done)); refine Yt ?_) | refine Yg ?_ | (simp only [X0, Nat.reduceBEq]) | clear hK K)
      refine hL _ _ hi ?_
      exact Yr [] (by simp [rowsOver])
    · repeat' (first | ((first | refine Y0 rfl fun K9 h9 => ?_ | refine Y1 rfl rfl fun K9 h9 => ?_ | refine Y2 rfl rfl fun K9 h9 => ?_ | (refine Y3 ?_ ?_; (focus (simp; done)); intro K9 h9) | ((first | refine Y4 rfl ?_ ?_ | refine Y5 rfl ?_ ?_); (focus (simp; done)); intro K9 h9)); simp (disch := (first | (simp; done) | omega | (simp; omega))); (try simp (disch := (first | omega | (simp; omega))) only [X7]); ((repeat (refine Yz ?_)); (first | refine h9 _ _ (Ys ?_) | refine h9 _ _ (Yt ?_)); clear h9 K9)) | refine Y6 ?_ | refine Y7 ?_ | (refine Y8 fun K hK => ?_) | refine Y9 ?_ | (apply hK; clear hK K) | ((first | refine Yk (m := 0) (by decide +kernel) [] (by kernel_rfl) (by decide +kernel) ?_); dsimp only [List.replicate, List.append_nil, List.cons_append, List.nil_append, List.length_cons, List.length_nil]) | refine Ya ?_ | (refine Yb rfl (fun hcnd => ?_) (fun hcnd => ?_) <;> (try simp at hcnd) <;> (try contradiction) <;> (try (exfalso; omega))) | refine Yc ?_ | (refine Yd ?_; simp only [X0, Nat.reduceBEq]) | (refine Ye ?_; refine Yf ?_) | (refine Yh ?_ ?_; (focus (simp; done)); refine Ys ?_) | ((first | refine Yi rfl ?_ ?_ | refine Yj rfl ?_ ?_); (focus (simp; done)); refine Yt ?_) | refine Yg ?_ | (simp only [X0, Nat.reduceBEq]) | clear hK K)
      exact .pure .bool
  · exact .bool

theorem same_call (s : Pg) (h1 : WN s.issuer) (h2 : WSs s.names) : PCall Tryz.prog 9 [.agg s.c, .agg s.c] (.bool true) := by
  have he := exname_call s.issuer h1
  rw [Pg.c.eq_1]
  unfold sbsV
  have hll : (s.names.flatMap Sb.c).length = s.names.length * 2 := flat_len Sb.c_len s.names
  have hcells := subs_at s.names
  have hpu := sbs_pures s.names
  have hl := h2.1
  have hex : ∀ x ∈ s.names, PCall Tryz.prog 29 [gnsV x.p, gnsV x.p] (.bool true) ∧ PCall Tryz.prog 29 [gnsV x.x, gnsV x.x] (.bool true) := fun x hx => ⟨exgens_call _ (h2.2 x hx).1, exgens_call _ (h2.2 x hx).2⟩
  generalize s.names.flatMap Sb.c = cells at *
  refine pcall_body Tryz.func9 rfl Tryz.call9 ?_ ?_
  rotate_left 1
  refine awp_slots (s' := (.agg [nmV s.issuer, .int .i64 s.key.h, .str s.key.id, .str s.key.root, .bool s.lists, .int .i64 s.len, .int .i64 s.expl, .int .i64 s.map, .int .i64 s.any, .sl s.names.length cells] : V) :: (.agg [nmV s.issuer, .int .i64 s.key.h, .str s.key.id, .str s.key.root, .bool s.lists, .int .i64 s.len, .int .i64 s.expl, .int .i64 s.map, .int .i64 s.any, .sl s.names.length cells] : V) :: zJ 99) rfl ?_; dsimp only [zJ]
  have hib : ∀ b : Bool, (b != b) = false := by simp
  repeat' (first | ((first | refine Y0 rfl fun K9 h9 => ?_ | refine Y1 rfl rfl fun K9 h9 => ?_ | refine Y2 rfl rfl fun K9 h9 => ?_ | (refine Y3 ?_ ?_; (focus (simp [aeq_ky, hib]; done)); intro K9 h9) | ((first | refine Y4 rfl ?_ ?_ | refine Y5 rfl ?_ ?_); (focus (simp [aeq_ky, hib]; done)); intro K9 h9)); simp (disch := (first | (simp; done) | omega | (simp; omega))) [aeq_ky, hib]; (try simp (disch := (first | omega | (simp; omega))) only [X7]); ((first | refine acall_pure (he) (by simp) ?_ | skip) <;> ((repeat (refine Yz ?_)); (first | refine h9 _ _ (Ys ?_) | refine h9 _ _ (Yt ?_)); clear h9 K9))) | refine Y6 ?_ | refine Y7 ?_ | (refine Y8 fun K hK => ?_) | refine Y9 ?_ | (apply hK; clear hK K) | ((first | refine Yk (m := 2) (by decide +kernel) [] (by kernel_rfl) (by decide +kernel) ?_); dsimp only [List.replicate, List.append_nil, List.cons_append, List.nil_append, List.length_cons, List.length_nil]) | refine Ya ?_ | (refine Yb rfl (fun hcnd => ?_) (fun hcnd => ?_) <;> (try simp at hcnd) <;> (try contradiction) <;> (try (exfalso; omega))) | refine Yc ?_ | (refine Yd ?_; simp only [X0, Nat.reduceBEq]) | (refine Ye ?_; refine Yf ?_) | (refine Yh ?_ ?_; (focus (simp [aeq_ky, hib]; done)); refine Ys ?_) | ((first | refine Yi rfl ?_ ?_ | refine Yj rfl ?_ ?_); (focus (simp [aeq_ky, hib]; done)); refine Yt ?_) | refine Yg ?_ | (simp only [X0, Nat.reduceBEq]) | clear hK K)
  · refine awp_countU (fun i => (zS 2 (zN 2 (some V.junk :: some (V.int .i64 i) :: zS 95 [])))) (fun i => [.live [nmV s.issuer, .int .i64 s.key.h, .str s.key.id, .str s.key.root, .bool s.lists, .int .i64 s.len, .int .i64 s.expl, .int .i64 s.map, .int .i64 s.any, .sl s.names.length cells], .live [nmV s.issuer, .int .i64 s.key.h, .str s.key.id, .str s.key.root, .bool s.lists, .int .i64 s.len, .int .i64 s.expl, .int .i64 s.map, .int .i64 s.any, .sl s.names.length cells]]) s.names.length ?_ fun i hi KL hL => ?_
    · dsimp only [ups, zN, zS]
      exact Yr [some 0, some 1] (by simp [rowsOver])
    dsimp only [ups, zN, zS]
    rcases Nat.lt_or_ge i s.names.length with hi | hi
    · have hg := hcells i hi
      obtain ⟨e1, e2⟩ := hex s.names[i] (List.getElem_mem _)
      obtain ⟨x, hxx⟩ : ∃ x, s.names[i] = x := ⟨_, rfl⟩
      rw [hxx] at hg e1 e2
      rw [show x.c = [gnsV x.p, gnsV x.x] from rfl] at hg
      repeat' (first | ((first | refine Y0 rfl fun K9 h9 => ?_ | refine Y1 rfl rfl fun K9 h9 => ?_ | refine Y2 rfl rfl fun K9 h9 => ?_ | (refine Y3 ?_ ?_; (focus (simp [hg]; done)); intro K9 h9) | ((first | refine Y4 rfl ?_ ?_ | refine Y5 rfl ?_ ?_); (focus (simp [hg]; done)); intro K9 h9)); simp (disch := (first | (simp; done) | omega | (simp; omega))) [hg]; (try simp (disch := (first | omega | (simp; omega))) only [X7]); ((first | refine acall_pure (e1) (by simp) ?_ | refine acall_pure (e2) (by simp) ?_ | refine aeffS_load (v := .sl s.names.length cells) rfl (by simp; done) (by simp; done) ?_ | skip) <;> ((repeat (refine Yz ?_)); (first | refine h9 _ _ (Ys ?_) | refine h9 _ _ (Yt ?_)); clear h9 K9))) | refine Y6 ?_ | refine Y7 ?_ | (refine Y8 fun K hK => ?_) | refine Y9 ?_ | (apply hK; clear hK K) | ((first | refine awp_region_drawF (m := 2) [(1, 9, .sl s.names.length cells)] (by simp) (by decide +kernel) [0, 0, 0, 0, 0, 0, 0, 0, 3, 0, 0, 1, 0, 0, 0, 0] (by kernel_rfl) (by decide +kernel) ?_ | refine Yk (m := 2) (by decide +kernel) [0, 0, 0, 0, 0, 0, 0, 0, 3, 0, 0, 1, 0, 0, 0, 0] (by kernel_rfl) (by decide +kernel) ?_ | refine Yk (m := 2) (by decide +kernel) [] (by kernel_rfl) (by decide +kernel) ?_); dsimp only [List.replicate, List.append_nil, List.cons_append, List.nil_append, List.length_cons, List.length_nil]) | refine Ya ?_ | (refine Yb rfl (fun hcnd => ?_) (fun hcnd => ?_) <;> (try simp at hcnd) <;> (try contradiction) <;> (try (exfalso; omega))) | refine Yc ?_ | (refine Yd ?_; simp only [X0, Nat.reduceBEq]) | (refine Ye ?_; refine Yf ?_) | (refine Yh ?_ ?_; (focus (simp [hg]; done)); refine Ys ?_) | ((first | refine Yi rfl ?_ ?_ | refine Yj rfl ?_ ?_); (focus (simp [hg]; done)); refine Yt ?_) | refine Yg ?_ | (simp only [X0, Nat.reduceBEq]) | clear hK K)
      refine hL _ _ hi ?_
      exact Yr [some 0, some 1] (by simp [rowsOver])
    · repeat' (first | ((first | refine Y0 rfl fun K9 h9 => ?_ | refine Y1 rfl rfl fun K9 h9 => ?_ | refine Y2 rfl rfl fun K9 h9 => ?_ | (refine Y3 ?_ ?_; (focus (simp; done)); intro K9 h9) | ((first | refine Y4 rfl ?_ ?_ | refine Y5 rfl ?_ ?_); (focus (simp; done)); intro K9 h9)); simp (disch := (first | (simp; done) | omega | (simp; omega))); (try simp (disch := (first | omega | (simp; omega))) only [X7]); ((repeat (refine Yz ?_)); (first | refine h9 _ _ (Ys ?_) | refine h9 _ _ (Yt ?_)); clear h9 K9)) | refine Y6 ?_ | refine Y7 ?_ | (refine Y8 fun K hK => ?_) | refine Y9 ?_ | (apply hK; clear hK K) | ((first | refine Yk (m := 2) (by decide +kernel) [] (by kernel_rfl) (by decide +kernel) ?_); dsimp only [List.replicate, List.append_nil, List.cons_append, List.nil_append, List.length_cons, List.length_nil]) | refine Ya ?_ | (refine Yb rfl (fun hcnd => ?_) (fun hcnd => ?_) <;> (try simp at hcnd) <;> (try contradiction) <;> (try (exfalso; omega))) | refine Yc ?_ | (refine Yd ?_; simp only [X0, Nat.reduceBEq]) | (refine Ye ?_; refine Yf ?_) | (refine Yh ?_ ?_; (focus (simp; done)); refine Ys ?_) | ((first | refine Yi rfl ?_ ?_ | refine Yj rfl ?_ ?_); (focus (simp; done)); refine Yt ?_) | refine Yg ?_ | (simp only [X0, Nat.reduceBEq]) | clear hK K)
      exact .pure .bool
  · exact .bool
end Go.Proofs.YtcfmanhblonjeaaGreat

