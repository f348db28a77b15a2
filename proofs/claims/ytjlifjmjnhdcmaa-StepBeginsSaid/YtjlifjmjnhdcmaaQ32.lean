/-
  STEP: StepBegins.
  Conditions: none.
-/
import Derived.Test.YtjlifjmjnhdcmaaQ40
import Derived.Test.YtjlifjmjnhdcmaaQ21
import Derived.Test.YtjlifjmjnhdcmaaQ22
import Derived.Test.YtjlifjmjnhdcmaaGd
import Derived.Test.YtjlifjmjnhdcmaaQ31
set_option linter.all false
namespace Go.Stp
open Go.VS Go.Proofs.Ytjlifjmjnhdcmaa
theorem ansVe (L : List An) : ansV L = .sl L.length (L.flatMap An.c) := rfl
theorem sbs0 (B : Pg) (h : B.names = []) : WSs B.names := by rw [h]; exact ⟨by simp, fun x h => by simp at h⟩
theorem wqu_wa {q : Qu} (h : WQu q) : WA q.issuers := ⟨by have := h.issuers.1; omega, fun a ha => by
  obtain ⟨k, -, -, rfl⟩ := h.issuers.2 a ha
  exact anc_wn _⟩
theorem sgl_w {s : Pg} {q : Qu} (hs : WPg s) (hq : WQu q) : ((if s.lists then [(⟨s.issuer, s.key⟩ : An)] else []) ++ q.issuers).length ≤ 3 ∧ ∀ a ∈ (if s.lists then [(⟨s.issuer, s.key⟩ : An)] else []) ++ q.issuers, WN a.n := by
  have h1 := hq.issuers.1
  have h2 := wqu_wa hq
  refine ⟨by cases s.lists <;> simp <;> omega, fun a ha => ?_⟩
  cases hl : s.lists
  · rw [hl] at ha
    simp at ha
    exact h2.2 a ha
  · rw [hl] at ha
    simp at ha
    rcases ha with rfl | ha
    · exact hs.iss
    · exact h2.2 a ha
theorem take4_at {l : List V} {n : Nat} {a b c d : V} (h : (l.drop n).take 4 = [a, b, c, d]) : (l.drop n).take 1 = [a] ∧ (l.drop (n + 1)).take 3 = [b, c, d] := by
  constructor
  · have := congrArg (List.take 1) h
    rw [List.take_take] at this
    exact this
  · have := congrArg (List.drop 1) h
    rw [List.drop_take, List.drop_drop] at this
    exact this
end Go.Stp
namespace Go.Proofs.Ytjlifjmjnhdcmaa
open Go.VS Go.Stp
set_option linter.all false
set_option maxRecDepth 100000
set_option maxHeartbeats 16000000
attribute [local irreducible] arun arunD arunU AWp aend bits
theorem begins_call (l : List Int) (b : Bool) (h : DkOk l) : PCall Try.prog 3 [.sl l.length (l.map (V.int .i64)), .bool b] (.bool true) := by
  have aw := awake_call
  have n4 : DC Try.prog 10 [.int .i64 4] l (IntQ 4) := next_dc h 4 (by omega) (by omega)
  have n8 : DC Try.prog 10 [.int .i64 8] l (IntQ 8) := next_dc h 8 (by omega) (by omega)
  have pg := progress_dc h
  have qy := query_dc h
  have ha0 : 0 ≤ l.length := by omega
  refine pcall_body Try.func3 rfl Try.call3 ?_ ?_
  rotate_left 1
  refine awp_slots (s' := ((.sl l.length (l.map (V.int .i64)) : V) :: (.bool b : V) :: V.junk :: V.junk :: V.junk :: V.junk :: V.junk :: V.junk :: V.junk :: V.junk :: V.junk :: V.junk :: V.junk :: V.junk :: V.junk :: V.junk :: V.junk :: V.junk :: V.junk :: V.junk :: V.junk :: V.junk :: V.junk :: V.junk :: V.junk :: V.junk :: V.junk :: V.junk :: V.junk :: V.junk :: V.junk :: V.junk :: V.junk :: V.junk :: V.junk :: V.junk :: V.junk :: V.junk :: V.junk :: V.junk :: V.junk :: V.junk :: V.junk :: V.junk :: V.junk :: V.junk :: V.junk :: V.junk :: V.junk :: V.junk :: V.junk :: V.junk :: V.junk :: V.junk :: V.junk :: V.junk :: V.junk :: V.junk :: V.junk :: V.junk :: V.junk :: V.junk :: V.junk :: V.junk :: V.junk :: V.junk :: V.junk :: V.junk :: V.junk :: V.junk :: V.junk :: V.junk :: V.junk :: V.junk :: V.junk :: V.junk :: V.junk :: V.junk :: V.junk :: V.junk :: V.junk :: V.junk :: V.junk :: V.junk :: V.junk :: V.junk :: V.junk :: V.junk :: V.junk :: V.junk :: [])) rfl ?_
  · repeat' (first | ((first | refine Y0 rfl fun K9 h9 => ?_ | refine Y1 rfl rfl fun K9 h9 => ?_ | refine Y2 rfl rfl fun K9 h9 => ?_ | (refine Y3 ?_ ?_; (focus (simp; done)); intro K9 h9) | ((first | refine Y4 rfl ?_ ?_ | refine Y5 rfl ?_ ?_); (focus (simp; done)); intro K9 h9)); simp (disch := (first | (simp; done) | omega | (simp; omega))); (try simp (disch := (first | omega | (simp; omega))) only [X7, X8, X9, Xa, Xb, Xc]); ((first | refine acall_new (deck_call l) (dk_pures _ _) (by simp) ?_ | (refine acall_dc n8 rfl (by assumption) (by simp) (fun r a' ha' hQ hr => ?_); obtain ⟨x, hx1, hx2, rfl⟩ := hQ; clear hr) | refine acall_pure (anchor_i _ (by omega) (by omega)) (by simp) ?_ | (refine acall_dc qy rfl (by assumption) (by simp) (fun r a' ha' hQ hr => ?_); obtain ⟨q, hq, rfl⟩ := hQ; clear hr; have hA := anc_wn x.toNat; have hb := begin_call (anc x.toNat) q hA; have rb := rbegin_call (anc x.toNat) q; have hsm := same_call (beginS (anc x.toNat) q) hA (sbs0 _ rfl); generalize beginS (anc x.toNat) q = B at *; generalize anc x.toNat = A at *; rw [An.c.eq_1 A, Qu.c.eq_1 q, Pg.c.eq_1 B] at hb rb; rw [Pg.c.eq_1 B] at hsm; rw [Qu.c.eq_1 q]) | refine acall_pure (hb) (by simp) ?_ | refine acall_pure (rb) (by simp) ?_ | refine acall_pure (hsm) (by simp) ?_ | (refine acall_dc pg rfl (by assumption) (by simp) (fun r a' ha' hQ hr => ?_); obtain ⟨s, hs, rfl⟩ := hQ; clear hr; have sg := signers_call s q hs.iss (wqu_wa hq); have rs := rsigners_call s q (wqu_wa hq); have hLw := sgl_w hs hq; obtain ⟨L, hLL⟩ : ∃ L, (if s.lists then [⟨s.issuer, s.key⟩] else []) ++ q.issuers = L := ⟨_, rfl⟩; rw [hLL] at sg rs hLw; clear hLL; rw [ansVe L, Pg.c.eq_1 s, Qu.c.eq_1 q] at sg rs; rw [Pg.c.eq_1 s]) | refine acall_pure (sg) (by simp) ?_ | refine acall_pure (rs) (by simp) ?_ | skip) <;> ((repeat (refine Yz ?_)); (first | refine h9 _ _ (Ys ?_) | refine h9 _ _ (Yt ?_)); clear h9 K9))) | refine Y6 ?_ | refine Y7 ?_ | (refine Y8 fun K hK => ?_) | refine Y9 ?_ | (apply hK; clear hK K) | ((first | refine Yk (m := 0) (by decide +kernel) [] (by kernel_rfl) (by decide +kernel) ?_); dsimp only [List.replicate, List.append_nil, List.cons_append, List.nil_append, List.length_cons, List.length_nil]) | refine Ya ?_ | (refine Yb rfl (fun hcnd => ?_) (fun hcnd => ?_) <;> (try simp at hcnd) <;> (try contradiction) <;> (try (exfalso; omega))) | refine Yc ?_ | (refine Yd ?_; simp only [X0, X1, X2, X3, X4, X5, X6, Nat.reduceBEq]) | (refine Ye ?_; refine Yf ?_) | (refine Yh ?_ ?_; (focus (simp; done)); refine Ys ?_) | ((first | refine Yi rfl ?_ ?_ | refine Yj rfl ?_ ?_); (focus (simp; done)); refine Yt ?_) | refine Yg ?_ | (simp only [X0, X1, X2, X3, X4, X5, X6, Nat.reduceBEq]) | (clear hK K; first | (apply hK; clear hK K) | (clear hK K; first | (apply hK; clear hK K) | (clear hK K; first | (apply hK; clear hK K) | (clear hK K; apply hK; clear hK K)))))
    obtain ⟨b0, hb0, hb0l⟩ : ∃ b0, b0 = a' ∧ b0 ≤ l.length := ⟨a', rfl, ha'⟩
    rw [← hb0]
    clear hb rb hsm sg rs qy pg
    have hcl := ans_len L
    have hcells := ancs_at L
    have hLl := hLw.1
    have hLn := hLw.2
    generalize L.flatMap An.c = cells at *
    refine awp_countU (fun i => (some V.junk :: none :: none :: none :: some V.junk :: none :: some V.junk :: some V.junk :: none :: none :: none :: some (V.int .i64 i) :: some V.junk :: some V.junk :: some V.junk :: some V.junk :: some V.junk :: some V.junk :: some V.junk :: some V.junk :: some V.junk :: some V.junk :: some V.junk :: some V.junk :: some V.junk :: some V.junk :: some V.junk :: some V.junk :: some V.junk :: some V.junk :: some V.junk :: some V.junk :: some V.junk :: some V.junk :: some V.junk :: some V.junk :: some V.junk :: some V.junk :: some V.junk :: some V.junk :: some V.junk :: some V.junk :: some V.junk :: some V.junk :: some V.junk :: some V.junk :: some V.junk :: some V.junk :: some V.junk :: some V.junk :: some V.junk :: some V.junk :: some V.junk :: some V.junk :: some V.junk :: some V.junk :: some V.junk :: some V.junk :: some V.junk :: some V.junk :: some V.junk :: some V.junk :: some V.junk :: some V.junk :: some V.junk :: some V.junk :: some V.junk :: some V.junk :: some V.junk :: some V.junk :: some V.junk :: some V.junk :: some V.junk :: some V.junk :: some V.junk :: some V.junk :: some V.junk :: some V.junk :: some V.junk :: some V.junk :: some V.junk :: some V.junk :: some V.junk :: some V.junk :: some V.junk :: some V.junk :: some V.junk :: some V.junk :: some V.junk :: some V.junk :: [])) (fun i => [.live (dk l b0), .live [nmV A.n, .int .i64 A.k.h, .str A.k.id, .str A.k.root], .live [.int .i64 q.time, .str q.purpose, .int .i64 q.usage, strV q.policies, .bool q.expl, .bool q.nomap, .bool q.noany, gnsV q.names, .int .i64 q.maxlen, .bool q.status, ansV q.issuers], .live [nmV s.issuer, .int .i64 s.key.h, .str s.key.id, .str s.key.root, .bool s.lists, .int .i64 s.len, .int .i64 s.expl, .int .i64 s.map, .int .i64 s.any, sbsV s.names]]) L.length ?_ fun i hi KL hL => ?_
    · dsimp only [ups_some, ups_none, ups_nil, ups_nil']
      exact Yr [some 0, some 1, some 2, some 3] (by simp [rowsOver, rowRen_live, rens_pures])
    dsimp only [ups_some, ups_none, ups_nil, ups_nil']
    rcases Nat.lt_or_ge i L.length with hi | hi
    · have hg := hcells i hi
      have he := exname_call L[i].n (hLn _ (List.getElem_mem _))
      obtain ⟨y, hyy⟩ : ∃ y, L[i] = y := ⟨_, rfl⟩
      rw [hyy] at hg he
      rw [show y.c = [nmV y.n, .int .i64 y.k.h, .str y.k.id, .str y.k.root] from rfl] at hg
      obtain ⟨g1, g3⟩ := take4_at hg
      repeat' (first | ((first | refine Y0 rfl fun K9 h9 => ?_ | refine Y1 rfl rfl fun K9 h9 => ?_ | refine Y2 rfl rfl fun K9 h9 => ?_ | (refine Y3 ?_ ?_; (focus (simp [hcl, g1, g3, aeq_ky]; done)); intro K9 h9) | ((first | refine Y4 rfl ?_ ?_ | refine Y5 rfl ?_ ?_); (focus (simp [hcl, g1, g3, aeq_ky]; done)); intro K9 h9)); simp (disch := (first | (simp; done) | omega | (simp; omega))) [hcl, g1, g3, aeq_ky]; (try simp (disch := (first | omega | (simp; omega))) only [X7, X8, X9, Xa, Xb, Xc]); ((first | refine acall_pure (he) (by simp) ?_ | skip) <;> ((repeat (refine Yz ?_)); (first | refine h9 _ _ (Ys ?_) | refine h9 _ _ (Yt ?_)); clear h9 K9))) | refine Y6 ?_ | refine Y7 ?_ | (refine Y8 fun K hK => ?_) | refine Y9 ?_ | (apply hK; clear hK K) | ((first | refine Yk (m := 0) (by decide +kernel) [] (by kernel_rfl) (by decide +kernel) ?_); dsimp only [List.replicate, List.append_nil, List.cons_append, List.nil_append, List.length_cons, List.length_nil]) | refine Ya ?_ | (refine Yb rfl (fun hcnd => ?_) (fun hcnd => ?_) <;> (try simp at hcnd) <;> (try contradiction) <;> (try (exfalso; omega))) | refine Yc ?_ | (refine Yd ?_; simp only [X0, X1, X2, X3, X4, X5, X6, Nat.reduceBEq]) | (refine Ye ?_; refine Yf ?_) | (refine Yh ?_ ?_; (focus (simp [hcl, g1, g3, aeq_ky]; done)); refine Ys ?_) | ((first | refine Yi rfl ?_ ?_ | refine Yj rfl ?_ ?_); (focus (simp [hcl, g1, g3, aeq_ky]; done)); refine Yt ?_) | refine Yg ?_ | (simp only [X0, X1, X2, X3, X4, X5, X6, Nat.reduceBEq]) | (clear hK K; first | (apply hK; clear hK K) | (clear hK K; first | (apply hK; clear hK K) | (clear hK K; first | (apply hK; clear hK K) | (clear hK K; apply hK; clear hK K)))))
      refine hL _ _ hi ?_
      exact Yr [some 0, some 1, some 2, some 3] (by simp [rowsOver, rowRen_live, rens_pures])
    · clear hL hcells hLw hLn
      repeat' (first | ((first | refine Y0 rfl fun K9 h9 => ?_ | refine Y1 rfl rfl fun K9 h9 => ?_ | refine Y2 rfl rfl fun K9 h9 => ?_ | (refine Y3 ?_ ?_; (focus (simp; done)); intro K9 h9) | ((first | refine Y4 rfl ?_ ?_ | refine Y5 rfl ?_ ?_); (focus (simp; done)); intro K9 h9)); simp (disch := (first | (simp; done) | omega | (simp; omega))); (try simp (disch := (first | omega | (simp; omega))) only [X7, X8, X9, Xa, Xb, Xc]); ((first | (refine acall_dc n4 rfl (by assumption) (by simp) (fun r a' ha' hQ hr => ?_); obtain ⟨x, hx1, hx2, rfl⟩ := hQ; clear hr) | (refine acall_dc (certf_dc h _ _ (by omega) (by omega) (by omega) (by omega) _) rfl (by assumption) (by simp) (fun r a' ha' hQ hr => ?_); obtain ⟨c, hc, rfl⟩ := hQ; clear hr; have sp := special_call s c b (wce_wn hc).2 (wce_wn hc).1; have rp := rspecial_call s c b (wce_wn hc).2 (wce_wn hc).1; generalize specialS s c b = S at *; rw [Pg.c.eq_1 s, Ce.c.eq_1 c] at sp rp; rw [Ce.c.eq_1 c]) | refine acall_pure (sp) (by simp) ?_ | refine acall_pure (rp) (by simp) ?_ | refine acall_pure (aw) (by simp) ?_ | skip) <;> ((repeat (refine Yz ?_)); (first | refine h9 _ _ (Ys ?_) | refine h9 _ _ (Yt ?_)); clear h9 K9))) | refine Y6 ?_ | refine Y7 ?_ | (refine Y8 fun K hK => ?_) | refine Y9 ?_ | (apply hK; clear hK K) | ((first | refine Yk (m := 0) (by decide +kernel) [] (by kernel_rfl) (by decide +kernel) ?_); dsimp only [List.replicate, List.append_nil, List.cons_append, List.nil_append, List.length_cons, List.length_nil]) | refine Ya ?_ | (refine Yb rfl (fun hcnd => ?_) (fun hcnd => ?_) <;> (try simp at hcnd) <;> (try contradiction) <;> (try (exfalso; omega))) | refine Yc ?_ | (refine Yd ?_; simp only [X0, X1, X2, X3, X4, X5, X6, Nat.reduceBEq]) | (refine Ye ?_; refine Yf ?_) | (refine Yh ?_ ?_; (focus (simp; done)); refine Ys ?_) | ((first | refine Yi rfl ?_ ?_ | refine Yj rfl ?_ ?_); (focus (simp; done)); refine Yt ?_) | refine Yg ?_ | (simp only [X0, X1, X2, X3, X4, X5, X6, Nat.reduceBEq]) | (clear hK K; first | (apply hK; clear hK K) | (clear hK K; first | (apply hK; clear hK K) | (clear hK K; first | (apply hK; clear hK K) | (clear hK K; apply hK; clear hK K)))))
      simp
      exact .pure .bool
  · exact .bool
theorem stepBegins_fits : ∀ xs, FitsAll Try.prog 8 Try.f3.params.toList xs → PCall Try.prog 3 xs (.bool true) := by
  intro xs h
  rw [show Try.f3.params.toList = [22, 4] by kernel_rfl] at h
  obtain ⟨x1, xs, rfl, h1, h⟩ := fitsAll_cons h
  obtain ⟨x2, xs, rfl, h2, h⟩ := fitsAll_cons h
  obtain rfl := fitsAll_nil h
  obtain ⟨l, hl, hr, rfl⟩ := fits_ints (e := 3) (by kernel_rfl) (by kernel_rfl) h1
  obtain ⟨b, rfl⟩ := fits_bool (by kernel_rfl) h2
  exact begins_call l b ⟨hl, hr⟩
end Go.Proofs.Ytjlifjmjnhdcmaa
