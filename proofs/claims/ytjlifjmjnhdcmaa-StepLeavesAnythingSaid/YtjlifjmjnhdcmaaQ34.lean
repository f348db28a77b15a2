/-
  STEP: what is short: names, general names, extensions.
  Conditions: none.
-/
import Derived.Test.YtjlifjmjnhdcmaaGl
import Derived.Test.YtjlifjmjnhdcmaaVs34
set_option linter.all false
namespace Go.Stp
open Go.VS
theorem exc_len (x : Ex) : x.c.length = 3 := rfl
theorem exs_len (l : List Ex) : (l.flatMap Ex.c).length = l.length * 3 := flat_len exc_len l
theorem exs_at (r : List Ex) (i : Nat) (h : i < r.length) : ((r.flatMap Ex.c).drop (i * 3)).take 3 = r[i].c := flat_at exc_len r i h
theorem ptl_c (p : Pt) : p.c.length = 4 := rfl
theorem ptl_len (l : List Pt) : (l.flatMap Pt.c).length = l.length * 4 := flat_len ptl_c l
theorem mpl_c (m : Mp) : m.c.length = 2 := rfl
theorem mpl_len (l : List Mp) : (l.flatMap Mp.c).length = l.length * 2 := flat_len mpl_c l
theorem mpl_at (r : List Mp) (i : Nat) (h : i < r.length) : ((r.flatMap Mp.c).drop (i * 2)).take 2 = [.str r[i].i, .str r[i].s] := flat_at mpl_c r i h
theorem pts_at (r : List Pt) (i : Nat) (h : i < r.length) : ((r.flatMap Pt.c).drop (i * 4)).take 4 = r[i].c := flat_at ptl_c r i h
end Go.Stp
namespace Go.Proofs.Ytjlifjmjnhdcmaa
open Go.VS Go.Stp
set_option linter.all false
set_option maxRecDepth 100000
set_option maxHeartbeats 16000000
attribute [local irreducible] arun arunD arunU AWp aend

theorem shortName_eg (n : Nm) : EG Try.prog 27 [.agg [nmV n]] [] (fun r _ => ∃ b : Bool, r = .bool b ∧ (b = true → WN n)) := by
  unfold nmV
  refine eg_body Try.func27 rfl Try.call27 ?_
  refine awp_slots (s' := [(.agg [.sl n.length (n.map atsV)] : V), .junk, .junk, .junk, .junk, .junk, .junk, .junk, .junk, .junk, .junk, .junk, .junk, .junk, .junk, .junk, .junk, .junk, .junk, .junk, .junk, .junk, .junk, .junk, .junk, .junk, .junk, .junk, .junk, .junk, .junk, .junk, .junk, .junk, .junk, .junk, .junk, .junk, .junk]) rfl ?_
  refine awp_rows (rows' := []) rfl ?_
  by_cases h0 : (12 : Int) < n.length
  · repeat' (first | ((first | refine Y0 rfl fun K9 h9 => ?_ | (refine Y3 ?_ ?_; (focus (simp [h0]; done)); intro K9 h9)); simp (disch := (first | (simp; done) | omega | (simp; omega))) [h0]; (try simp (disch := (first | omega | (simp; omega))) only [X7, X8, X9, Xa, Xb, Xc]); ((repeat (refine Yz ?_)); (first | refine h9 _ _ (Ys ?_)); clear h9 K9)) | refine Y6 ?_ | (refine Y8 fun K hK => ?_) | refine Y9 ?_ | (apply hK; clear hK K) | refine Ya ?_ | (refine Yb rfl (fun hcnd => ?_) (fun hcnd => ?_) <;> (try simp at hcnd) <;> (try contradiction) <;> (try (exfalso; omega))) | refine Yc ?_ | (refine Yd ?_; simp only [X0, X1, X2, X3, X4, X5, X6, Nat.reduceBEq]) | (refine Ye ?_; refine Yf ?_) | (refine Yh ?_ ?_; (focus (simp [h0]; done)); refine Ys ?_) | refine Yg ?_ | (simp only [X0, X1, X2, X3, X4, X5, X6, Nat.reduceBEq]) | (clear hK K; first | (apply hK; clear hK K) | (clear hK K; first | (apply hK; clear hK K) | (clear hK K; first | (apply hK; clear hK K) | (clear hK K; apply hK; clear hK K)))))
    refine ⟨.bool false, [], ⟨false, rfl, by simp⟩, by simp, rfl, by simp, ?_⟩
    exact Le.mk [] (by simp [sget]) (rowsRen_of (by simp) (by simp [rowsOver])) (by simp)
  · repeat' (first | ((first | refine Y0 rfl fun K9 h9 => ?_ | (refine Y3 ?_ ?_; (focus (simp [h0]; done)); intro K9 h9)); simp (disch := (first | (simp; done) | omega | (simp; omega))) [h0]; (try simp (disch := (first | omega | (simp; omega))) only [X7, X8, X9, Xa, Xb, Xc]); ((repeat (refine Yz ?_)); (first | refine h9 _ _ (Ys ?_)); clear h9 K9)) | refine Y6 ?_ | (refine Y8 fun K hK => ?_) | refine Y9 ?_ | (apply hK; clear hK K) | refine Ya ?_ | (refine Yb rfl (fun hcnd => ?_) (fun hcnd => ?_) <;> (try simp at hcnd) <;> (try contradiction) <;> (try (exfalso; omega))) | refine Yc ?_ | (refine Yd ?_; simp only [X0, X1, X2, X3, X4, X5, X6, Nat.reduceBEq]) | (refine Ye ?_; refine Yf ?_) | (refine Yh ?_ ?_; (focus (simp [h0]; done)); refine Ys ?_) | refine Yg ?_ | (simp only [X0, X1, X2, X3, X4, X5, X6, Nat.reduceBEq]) | (clear hK K; first | (apply hK; clear hK K) | (clear hK K; first | (apply hK; clear hK K) | (clear hK K; first | (apply hK; clear hK K) | (clear hK K; apply hK; clear hK K)))))
    refine awp_loopU (α := Nat) (fun i => [some V.junk, some V.junk, some V.junk, none, some V.junk, none, some V.junk, some V.junk, some V.junk, some V.junk, some V.junk, some V.junk, none, none, some (V.int .i64 i), some V.junk, some V.junk, some V.junk, some V.junk, some V.junk, some V.junk, some V.junk, some V.junk, some V.junk, some V.junk, some V.junk, some V.junk, some V.junk, some V.junk, some V.junk, some V.junk, some V.junk, some V.junk, some V.junk, some V.junk, some V.junk, some V.junk, some V.junk, some V.junk]) (fun i => []) (fun i => i ≤ n.length ∧ ∀ j (h : j < n.length), j < i → n[j].length ≤ 65536 ∧ ∀ a ∈ n[j], a.v.length ≤ 65536) (fun i => n.length - i) 0 ⟨by omega, fun j _ h => by omega⟩ ?_ ?_
    · dsimp only [ups_some, ups_none, ups_nil, ups_nil']
      exact Yr [] (by simp [rowsOver])
    rintro i ⟨hi, hall⟩ KL hL
    dsimp only [ups_some, ups_none, ups_nil, ups_nil']
    rcases Nat.lt_or_ge i n.length with hi | hi
    · have hstep : (n[i].length ≤ 65536 ∧ ∀ a ∈ n[i], a.v.length ≤ 65536) → i + 1 ≤ n.length ∧ ∀ j (h : j < n.length), j < i + 1 → n[j].length ≤ 65536 ∧ ∀ a ∈ n[j], a.v.length ≤ 65536 := fun hx => ⟨by omega, fun j hj h => by
        rcases Nat.lt_or_ge j i with h3 | h3
        · exact hall j hj h3
        · obtain rfl : j = i := by omega
          exact hx⟩
      obtain ⟨x, hxx⟩ : ∃ x, n[i] = x := ⟨_, rfl⟩
      rw [hxx] at hstep
      have hxl := ats_len x
      have hcells := ats_at x
      have hax : atsV x = .sl x.length (x.flatMap At.c) := rfl
      generalize x.flatMap At.c = cells at *
      clear hall
      by_cases h1 : (8 : Int) < x.length
      · repeat' (first | ((first | refine Y0 rfl fun K9 h9 => ?_ | (refine Y3 ?_ ?_; (focus (simp [hxx, hax, h1]; done)); intro K9 h9)); simp (disch := (first | (simp; done) | omega | (simp; omega))) [hxx, hax, h1]; (try simp (disch := (first | omega | (simp; omega))) only [X7, X8, X9, Xa, Xb, Xc]); ((repeat (refine Yz ?_)); (first | refine h9 _ _ (Ys ?_)); clear h9 K9)) | refine Y6 ?_ | (refine Y8 fun K hK => ?_) | refine Y9 ?_ | (apply hK; clear hK K) | refine Ya ?_ | (refine Yb rfl (fun hcnd => ?_) (fun hcnd => ?_) <;> (try simp at hcnd) <;> (try contradiction) <;> (try (exfalso; omega))) | refine Yc ?_ | (refine Yd ?_; simp only [X0, X1, X2, X3, X4, X5, X6, Nat.reduceBEq]) | (refine Ye ?_; refine Yf ?_) | (refine Yh ?_ ?_; (focus (simp [hxx, hax, h1]; done)); refine Ys ?_) | refine Yg ?_ | (simp only [X0, X1, X2, X3, X4, X5, X6, Nat.reduceBEq]) | (clear hK K; first | (apply hK; clear hK K) | (clear hK K; first | (apply hK; clear hK K) | (clear hK K; first | (apply hK; clear hK K) | (clear hK K; apply hK; clear hK K)))))
        refine ⟨.bool false, [], ⟨false, rfl, by simp⟩, by simp, rfl, by simp, ?_⟩
        exact Le.mk [] (by simp [sget]) (rowsRen_of (by simp) (by simp [rowsOver])) (by simp)
      · repeat' (first | ((first | refine Y0 rfl fun K9 h9 => ?_ | (refine Y3 ?_ ?_; (focus (simp [hxx, hax, h1]; done)); intro K9 h9)); simp (disch := (first | (simp; done) | omega | (simp; omega))) [hxx, hax, h1]; (try simp (disch := (first | omega | (simp; omega))) only [X7, X8, X9, Xa, Xb, Xc]); ((repeat (refine Yz ?_)); (first | refine h9 _ _ (Ys ?_)); clear h9 K9)) | refine Y6 ?_ | (refine Y8 fun K hK => ?_) | refine Y9 ?_ | (apply hK; clear hK K) | refine Ya ?_ | (refine Yb rfl (fun hcnd => ?_) (fun hcnd => ?_) <;> (try simp at hcnd) <;> (try contradiction) <;> (try (exfalso; omega))) | refine Yc ?_ | (refine Yd ?_; simp only [X0, X1, X2, X3, X4, X5, X6, Nat.reduceBEq]) | (refine Ye ?_; refine Yf ?_) | (refine Yh ?_ ?_; (focus (simp [hxx, hax, h1]; done)); refine Ys ?_) | refine Yg ?_ | (simp only [X0, X1, X2, X3, X4, X5, X6, Nat.reduceBEq]) | (clear hK K; first | (apply hK; clear hK K) | (clear hK K; first | (apply hK; clear hK K) | (clear hK K; first | (apply hK; clear hK K) | (clear hK K; apply hK; clear hK K)))))
        refine awp_loopU (α := Nat) (fun j => [some V.junk, some V.junk, some V.junk, none, some V.junk, none, some V.junk, some V.junk, some V.junk, some V.junk, some V.junk, some V.junk, none, none, none, some V.junk, some V.junk, some V.junk, some V.junk, some V.junk, some V.junk, none, none, some (V.int .i64 j), some V.junk, some V.junk, some V.junk, some V.junk, some V.junk, some V.junk, some V.junk, some V.junk, some V.junk, some V.junk, some V.junk, some V.junk, some V.junk, some V.junk, some V.junk]) (fun j => []) (fun j => j ≤ x.length ∧ ∀ a ∈ x.take j, a.v.length ≤ 65536) (fun j => x.length - j) 0 ⟨by omega, by simp⟩ ?_ ?_
        · dsimp only [ups_some, ups_none, ups_nil, ups_nil']
          exact Yr [] (by simp [rowsOver])
        rintro j ⟨hj, hjall⟩ KL2 hL2
        dsimp only [ups_some, ups_none, ups_nil, ups_nil']
        rcases Nat.lt_or_ge j x.length with hj | hj
        · have hg := hcells j hj
          have hjs : x[j].v.length ≤ 65536 → j + 1 ≤ x.length ∧ ∀ a ∈ x.take (j + 1), a.v.length ≤ 65536 := fun hv => ⟨by omega, fun a ha => by
            rw [List.take_succ_eq_append_getElem hj] at ha
            rcases List.mem_append.1 ha with ha | ha
            · exact hjall a ha
            · simp at ha
              subst ha
              exact hv⟩
          obtain ⟨y, hyy⟩ : ∃ y, x[j] = y := ⟨_, rfl⟩
          rw [hyy] at hg hjs
          rw [show y.c = [.str y.t, .int .i64 y.k, .str y.v] from rfl] at hg
          clear hL hstep hjall
          by_cases h2 : (200 : Int) < y.t.length
          · repeat' (first | ((first | refine Yl rfl fun K9 h9 => ?_ | (refine Ym ?_ ?_; (focus (simp [hxl, hg, h2]; done)); intro K9 h9)); simp (disch := (first | (simp; done) | omega | (simp; omega))) [hxl, hg, h2]; (try simp (disch := (first | omega | (simp; omega))) only [X7, X8, X9, Xa, Xb, Xc]); ((repeat (refine Yz ?_)); (first | refine h9 _ _ (Yp ?_)); clear h9 K9)) | refine Yo ?_ | (refine Y8 fun K hK => ?_) | refine Yq ?_ | (apply hK; clear hK K) | refine Ya ?_ | (refine Yb rfl (fun hcnd => ?_) (fun hcnd => ?_) <;> (try simp at hcnd) <;> (try contradiction) <;> (try (exfalso; omega))) | refine Yc ?_ | (refine Yd ?_; simp only [X0, X1, X2, X3, X4, X5, X6, Nat.reduceBEq]) | (refine Ye ?_; refine Yf ?_) | (refine Yn ?_ ?_; (focus (simp [hxl, hg, h2]; done)); refine Yp ?_) | refine Yg ?_ | (simp only [X0, X1, X2, X3, X4, X5, X6, Nat.reduceBEq]) | (clear hK K; first | (apply hK; clear hK K) | (clear hK K; first | (apply hK; clear hK K) | (clear hK K; first | (apply hK; clear hK K) | (clear hK K; apply hK; clear hK K)))))
            refine ⟨.bool false, [], ⟨false, rfl, by simp⟩, by simp, rfl, by simp, ?_⟩
            exact Le.mk [] (by simp [sget]) (rowsRen_of (by simp) (by simp [rowsOver])) (by simp)
          · by_cases h3 : (200 : Int) < y.v.length
            · repeat' (first | ((first | refine Yl rfl fun K9 h9 => ?_ | (refine Ym ?_ ?_; (focus (simp [hxl, hg, h2, h3]; done)); intro K9 h9)); simp (disch := (first | (simp; done) | omega | (simp; omega))) [hxl, hg, h2, h3]; (try simp (disch := (first | omega | (simp; omega))) only [X7, X8, X9, Xa, Xb, Xc]); ((repeat (refine Yz ?_)); (first | refine h9 _ _ (Yp ?_)); clear h9 K9)) | refine Yo ?_ | (refine Y8 fun K hK => ?_) | refine Yq ?_ | (apply hK; clear hK K) | refine Ya ?_ | (refine Yb rfl (fun hcnd => ?_) (fun hcnd => ?_) <;> (try simp at hcnd) <;> (try contradiction) <;> (try (exfalso; omega))) | refine Yc ?_ | (refine Yd ?_; simp only [X0, X1, X2, X3, X4, X5, X6, Nat.reduceBEq]) | (refine Ye ?_; refine Yf ?_) | (refine Yn ?_ ?_; (focus (simp [hxl, hg, h2, h3]; done)); refine Yp ?_) | refine Yg ?_ | (simp only [X0, X1, X2, X3, X4, X5, X6, Nat.reduceBEq]) | (clear hK K; first | (apply hK; clear hK K) | (clear hK K; first | (apply hK; clear hK K) | (clear hK K; first | (apply hK; clear hK K) | (clear hK K; apply hK; clear hK K)))))
              refine ⟨.bool false, [], ⟨false, rfl, by simp⟩, by simp, rfl, by simp, ?_⟩
              exact Le.mk [] (by simp [sget]) (rowsRen_of (by simp) (by simp [rowsOver])) (by simp)
            · repeat' (first | ((first | refine Yl rfl fun K9 h9 => ?_ | (refine Ym ?_ ?_; (focus (simp [hxl, hg, h2, h3]; done)); intro K9 h9)); simp (disch := (first | (simp; done) | omega | (simp; omega))) [hxl, hg, h2, h3]; (try simp (disch := (first | omega | (simp; omega))) only [X7, X8, X9, Xa, Xb, Xc]); ((repeat (refine Yz ?_)); (first | refine h9 _ _ (Yp ?_)); clear h9 K9)) | refine Yo ?_ | (refine Y8 fun K hK => ?_) | refine Yq ?_ | (apply hK; clear hK K) | refine Ya ?_ | (refine Yb rfl (fun hcnd => ?_) (fun hcnd => ?_) <;> (try simp at hcnd) <;> (try contradiction) <;> (try (exfalso; omega))) | refine Yc ?_ | (refine Yd ?_; simp only [X0, X1, X2, X3, X4, X5, X6, Nat.reduceBEq]) | (refine Ye ?_; refine Yf ?_) | (refine Yn ?_ ?_; (focus (simp [hxl, hg, h2, h3]; done)); refine Yp ?_) | refine Yg ?_ | (simp only [X0, X1, X2, X3, X4, X5, X6, Nat.reduceBEq]) | (clear hK K; first | (apply hK; clear hK K) | (clear hK K; first | (apply hK; clear hK K) | (clear hK K; first | (apply hK; clear hK K) | (clear hK K; apply hK; clear hK K)))))
              refine hL2 (j + 1) _ _ (hjs (by omega)) (by omega) ?_
              exact Yr [] (by simp [rowsOver])
        · rw [List.take_of_length_le hj] at hjall
          repeat' (first | ((first | refine Y0 rfl fun K9 h9 => ?_ | (refine Y3 ?_ ?_; (focus (simp; done)); intro K9 h9)); simp (disch := (first | (simp; done) | omega | (simp; omega))); (try simp (disch := (first | omega | (simp; omega))) only [X7, X8, X9, Xa, Xb, Xc]); ((repeat (refine Yz ?_)); (first | refine h9 _ _ (Ys ?_)); clear h9 K9)) | refine Y6 ?_ | (refine Y8 fun K hK => ?_) | refine Y9 ?_ | (apply hK; clear hK K) | refine Ya ?_ | (refine Yb rfl (fun hcnd => ?_) (fun hcnd => ?_) <;> (try simp at hcnd) <;> (try contradiction) <;> (try (exfalso; omega))) | refine Yc ?_ | (refine Yd ?_; simp only [X0, X1, X2, X3, X4, X5, X6, Nat.reduceBEq]) | (refine Ye ?_; refine Yf ?_) | (refine Yh ?_ ?_; (focus (simp; done)); refine Ys ?_) | refine Yg ?_ | (simp only [X0, X1, X2, X3, X4, X5, X6, Nat.reduceBEq]) | (clear hK K; first | (apply hK; clear hK K) | (clear hK K; first | (apply hK; clear hK K) | (clear hK K; first | (apply hK; clear hK K) | (clear hK K; apply hK; clear hK K)))))
          refine hL (i + 1) _ _ (hstep ⟨by omega, hjall⟩) (by omega) ?_
          exact Yr [] (by simp [rowsOver])
    · repeat' (first | ((first | refine Y0 rfl fun K9 h9 => ?_ | (refine Y3 ?_ ?_; (focus (simp; done)); intro K9 h9)); simp (disch := (first | (simp; done) | omega | (simp; omega))); (try simp (disch := (first | omega | (simp; omega))) only [X7, X8, X9, Xa, Xb, Xc]); ((repeat (refine Yz ?_)); (first | refine h9 _ _ (Ys ?_)); clear h9 K9)) | refine Y6 ?_ | (refine Y8 fun K hK => ?_) | refine Y9 ?_ | (apply hK; clear hK K) | refine Ya ?_ | (refine Yb rfl (fun hcnd => ?_) (fun hcnd => ?_) <;> (try simp at hcnd) <;> (try contradiction) <;> (try (exfalso; omega))) | refine Yc ?_ | (refine Yd ?_; simp only [X0, X1, X2, X3, X4, X5, X6, Nat.reduceBEq]) | (refine Ye ?_; refine Yf ?_) | (refine Yh ?_ ?_; (focus (simp; done)); refine Ys ?_) | refine Yg ?_ | (simp only [X0, X1, X2, X3, X4, X5, X6, Nat.reduceBEq]) | (clear hK K; first | (apply hK; clear hK K) | (clear hK K; first | (apply hK; clear hK K) | (clear hK K; first | (apply hK; clear hK K) | (clear hK K; apply hK; clear hK K)))))
      refine ⟨.bool true, [], ⟨true, rfl, fun _ => ⟨by omega, fun r hr => by obtain ⟨j, hj, rfl⟩ := List.getElem_of_mem hr; exact hall j hj (by omega)⟩⟩, by simp, rfl, by simp, ?_⟩
      exact Le.mk [] (by simp [sget]) (rowsRen_of (by simp) (by simp [rowsOver])) (by simp)


theorem shortNames_eg (l : List Gn) : EG Try.prog 29 [.sl l.length (l.flatMap Gn.c)] [] (fun r _ => ∃ b : Bool, r = .bool b ∧ (b = true → WG l)) := by
  refine eg_body Try.func29 rfl Try.call29 ?_
  refine awp_slots (s' := [(.sl l.length (l.flatMap Gn.c) : V), .junk, .junk, .junk, .junk, .junk, .junk, .junk, .junk, .junk, .junk, .junk, .junk, .junk, .junk, .junk, .junk, .junk, .junk, .junk, .junk, .junk, .junk, .junk, .junk]) rfl ?_
  refine awp_rows (rows' := []) rfl ?_
  have hll := gns_len l
  have hcells := gens_at l
  generalize l.flatMap Gn.c = cells at *
  by_cases h0 : (20 : Int) < l.length
  · repeat' (first | ((first | refine Y0 rfl fun K9 h9 => ?_ | (refine Y3 ?_ ?_; (focus (simp [h0]; done)); intro K9 h9)); simp (disch := (first | (simp; done) | omega | (simp; omega))) [h0]; (try simp (disch := (first | omega | (simp; omega))) only [X7, X8, X9, Xa, Xb, Xc]); ((repeat (refine Yz ?_)); (first | refine h9 _ _ (Ys ?_)); clear h9 K9)) | refine Y6 ?_ | (refine Y8 fun K hK => ?_) | refine Y9 ?_ | (apply hK; clear hK K) | refine Ya ?_ | (refine Yb rfl (fun hcnd => ?_) (fun hcnd => ?_) <;> (try simp at hcnd) <;> (try contradiction) <;> (try (exfalso; omega))) | refine Yc ?_ | (refine Yd ?_; simp only [X0, X1, X2, X3, X4, X5, X6, Nat.reduceBEq]) | (refine Ye ?_; refine Yf ?_) | (refine Yh ?_ ?_; (focus (simp [h0]; done)); refine Ys ?_) | refine Yg ?_ | (simp only [X0, X1, X2, X3, X4, X5, X6, Nat.reduceBEq]) | (clear hK K; first | (apply hK; clear hK K) | (clear hK K; first | (apply hK; clear hK K) | (clear hK K; first | (apply hK; clear hK K) | (clear hK K; apply hK; clear hK K)))))
    refine ⟨.bool false, [], ⟨false, rfl, by simp⟩, by simp, rfl, by simp, ?_⟩
    exact Le.mk [] (by simp [sget]) (rowsRen_of (by simp) (by simp [rowsOver])) (by simp)
  · repeat' (first | ((first | refine Y0 rfl fun K9 h9 => ?_ | (refine Y3 ?_ ?_; (focus (simp [h0]; done)); intro K9 h9)); simp (disch := (first | (simp; done) | omega | (simp; omega))) [h0]; (try simp (disch := (first | omega | (simp; omega))) only [X7, X8, X9, Xa, Xb, Xc]); ((repeat (refine Yz ?_)); (first | refine h9 _ _ (Ys ?_)); clear h9 K9)) | refine Y6 ?_ | (refine Y8 fun K hK => ?_) | refine Y9 ?_ | (apply hK; clear hK K) | refine Ya ?_ | (refine Yb rfl (fun hcnd => ?_) (fun hcnd => ?_) <;> (try simp at hcnd) <;> (try contradiction) <;> (try (exfalso; omega))) | refine Yc ?_ | (refine Yd ?_; simp only [X0, X1, X2, X3, X4, X5, X6, Nat.reduceBEq]) | (refine Ye ?_; refine Yf ?_) | (refine Yh ?_ ?_; (focus (simp [h0]; done)); refine Ys ?_) | refine Yg ?_ | (simp only [X0, X1, X2, X3, X4, X5, X6, Nat.reduceBEq]) | (clear hK K; first | (apply hK; clear hK K) | (clear hK K; first | (apply hK; clear hK K) | (clear hK K; first | (apply hK; clear hK K) | (clear hK K; apply hK; clear hK K)))))
    refine awp_loopU (α := Nat) (fun i => [some V.junk, none, some V.junk, none, some V.junk, some V.junk, some V.junk, some V.junk, none, none, some (V.int .i64 i), some V.junk, some V.junk, some V.junk, some V.junk, some V.junk, some V.junk, some V.junk, some V.junk, some V.junk, some V.junk, some V.junk, some V.junk, some V.junk, some V.junk]) (fun i => []) (fun i => i ≤ l.length ∧ ∀ j (h : j < l.length), j < i → WN l[j].name) (fun i => l.length - i) 0 ⟨by omega, fun j _ h => by omega⟩ ?_ ?_
    · dsimp only [ups_some, ups_none, ups_nil, ups_nil']
      exact Yr [] (by simp [rowsOver])
    rintro i ⟨hi, hall⟩ KL hL
    dsimp only [ups_some, ups_none, ups_nil, ups_nil']
    rcases Nat.lt_or_ge i l.length with hi | hi
    · have hstep : WN l[i].name → i + 1 ≤ l.length ∧ ∀ j (h : j < l.length), j < i + 1 → WN l[j].name := fun hx => ⟨by omega, fun j hj h => by
        rcases Nat.lt_or_ge j i with h3 | h3
        · exact hall j hj h3
        · obtain rfl : j = i := by omega
          exact hx⟩
      have hg := hcells i hi
      obtain ⟨x, hxx⟩ : ∃ x, l[i] = x := ⟨_, rfl⟩
      rw [hxx] at hg
      try rw [hxx] at hstep
      rw [show x.c = [.int .i64 x.kind, .str x.text, .sl x.name.length (x.name.map atsV)] from rfl] at hg
      clear hall
      have hsn : EG Try.prog 27 [.agg [.sl x.name.length (x.name.map atsV)]] [] (fun r _ => ∃ b : Bool, r = .bool b ∧ (b = true → WN x.name)) := shortName_eg x.name
      by_cases h1 : (300 : Int) < x.text.length
      · repeat' (first | ((first | refine Yl rfl fun K9 h9 => ?_ | (refine Ym ?_ ?_; (focus (simp [hll, hg, h1]; done)); intro K9 h9)); simp (disch := (first | (simp; done) | omega | (simp; omega))) [hll, hg, h1]; (try simp (disch := (first | omega | (simp; omega))) only [X7, X8, X9, Xa, Xb, Xc]); ((repeat (refine Yz ?_)); (first | refine h9 _ _ (Yp ?_)); clear h9 K9)) | refine Yo ?_ | (refine Y8 fun K hK => ?_) | refine Yq ?_ | (apply hK; clear hK K) | refine Ya ?_ | (refine Yb rfl (fun hcnd => ?_) (fun hcnd => ?_) <;> (try simp at hcnd) <;> (try contradiction) <;> (try (exfalso; omega))) | refine Yc ?_ | (refine Yd ?_; simp only [X0, X1, X2, X3, X4, X5, X6, Nat.reduceBEq]) | (refine Ye ?_; refine Yf ?_) | (refine Yn ?_ ?_; (focus (simp [hll, hg, h1]; done)); refine Yp ?_) | refine Yg ?_ | (simp only [X0, X1, X2, X3, X4, X5, X6, Nat.reduceBEq]) | (clear hK K; first | (apply hK; clear hK K) | (clear hK K; first | (apply hK; clear hK K) | (clear hK K; first | (apply hK; clear hK K) | (clear hK K; apply hK; clear hK K)))))
        refine ⟨.bool false, [], ⟨false, rfl, by simp⟩, by simp, rfl, by simp, ?_⟩
        exact Le.mk [] (by simp [sget]) (rowsRen_of (by simp) (by simp [rowsOver])) (by simp)
      · repeat' (first | ((first | refine Yl rfl fun K9 h9 => ?_ | (refine Ym ?_ ?_; (focus (simp [hll, hg, h1]; done)); intro K9 h9)); simp (disch := (first | (simp; done) | omega | (simp; omega))) [hll, hg, h1]; (try simp (disch := (first | omega | (simp; omega))) only [X7, X8, X9, Xa, Xb, Xc]); ((first | (refine acall_eg [] hsn (by simp) (by simp [rowsOver]) ?_ rfl ?_; (focus (simp; done)); intro r rows' hR hr hl hps; obtain ⟨bn, rfl, hbn⟩ := hR; clear hr hps; obtain rfl := List.eq_nil_of_length_eq_zero hl; cases bn) | skip) <;> ((repeat (refine Yz ?_)); (first | refine h9 _ _ (Yp ?_)); clear h9 K9))) | refine Yo ?_ | (refine Y8 fun K hK => ?_) | refine Yq ?_ | (apply hK; clear hK K) | refine Ya ?_ | (refine Yb rfl (fun hcnd => ?_) (fun hcnd => ?_) <;> (try simp at hcnd) <;> (try contradiction) <;> (try (exfalso; omega))) | refine Yc ?_ | (refine Yd ?_; simp only [X0, X1, X2, X3, X4, X5, X6, Nat.reduceBEq]) | (refine Ye ?_; refine Yf ?_) | (refine Yn ?_ ?_; (focus (simp [hll, hg, h1]; done)); refine Yp ?_) | refine Yg ?_ | (simp only [X0, X1, X2, X3, X4, X5, X6, Nat.reduceBEq]) | (clear hK K; first | (apply hK; clear hK K) | (clear hK K; first | (apply hK; clear hK K) | (clear hK K; first | (apply hK; clear hK K) | (clear hK K; apply hK; clear hK K)))))
        · refine ⟨.bool false, [], ⟨false, rfl, by simp⟩, by simp, rfl, by simp, ?_⟩
          exact Le.mk [] (by simp [sget]) (rowsRen_of (by simp) (by simp [rowsOver])) (by simp)
        · refine hL (i + 1) _ _ (hstep (hbn rfl)) (by omega) ?_
          exact Yr [] (by simp [rowsOver])
    · repeat' (first | ((first | refine Y0 rfl fun K9 h9 => ?_ | (refine Y3 ?_ ?_; (focus (simp; done)); intro K9 h9)); simp (disch := (first | (simp; done) | omega | (simp; omega))); (try simp (disch := (first | omega | (simp; omega))) only [X7, X8, X9, Xa, Xb, Xc]); ((repeat (refine Yz ?_)); (first | refine h9 _ _ (Ys ?_)); clear h9 K9)) | refine Y6 ?_ | (refine Y8 fun K hK => ?_) | refine Y9 ?_ | (apply hK; clear hK K) | refine Ya ?_ | (refine Yb rfl (fun hcnd => ?_) (fun hcnd => ?_) <;> (try simp at hcnd) <;> (try contradiction) <;> (try (exfalso; omega))) | refine Yc ?_ | (refine Yd ?_; simp only [X0, X1, X2, X3, X4, X5, X6, Nat.reduceBEq]) | (refine Ye ?_; refine Yf ?_) | (refine Yh ?_ ?_; (focus (simp; done)); refine Ys ?_) | refine Yg ?_ | (simp only [X0, X1, X2, X3, X4, X5, X6, Nat.reduceBEq]) | (clear hK K; first | (apply hK; clear hK K) | (clear hK K; first | (apply hK; clear hK K) | (clear hK K; first | (apply hK; clear hK K) | (clear hK K; apply hK; clear hK K)))))
      refine ⟨.bool true, [], ⟨true, rfl, fun _ => ⟨by omega, fun r hr => by obtain ⟨j, hj, rfl⟩ := List.getElem_of_mem hr; exact hall j hj (by omega)⟩⟩, by simp, rfl, by simp, ?_⟩
      exact Le.mk [] (by simp [sget]) (rowsRen_of (by simp) (by simp [rowsOver])) (by simp)


theorem few_eg (l : List (List UInt8)) (n m : Int) (hn : n ≤ 1000) : EG Try.prog 56 [strV l, .int .i64 n, .int .i64 m] [] (fun r _ => ∃ b : Bool, r = .bool b ∧ True) := by
  unfold strV
  refine eg_body Try.func56 rfl Try.call56 ?_
  refine awp_slots (s' := [(.sl l.length (l.map V.str) : V), (.int .i64 n : V), (.int .i64 m : V), .junk, .junk, .junk, .junk, .junk, .junk, .junk, .junk, .junk, .junk, .junk, .junk, .junk, .junk, .junk, .junk, .junk, .junk, .junk, .junk, .junk]) rfl ?_
  refine awp_rows (rows' := []) rfl ?_
  by_cases h0 : n < l.length
  · repeat' (first | (refine Y0 rfl fun K9 h9 => ?_; simp (disch := (first | (simp; done) | omega | (simp; omega))) [h0]; (try simp (disch := (first | omega | (simp; omega))) only [X7, X8, X9, Xa, Xb, Xc]); ((repeat (refine Yz ?_)); (first | refine h9 _ _ (Ys ?_)); clear h9 K9)) | refine Y6 ?_ | (refine Y8 fun K hK => ?_) | refine Y9 ?_ | (apply hK; clear hK K) | refine Ya ?_ | (refine Yb rfl (fun hcnd => ?_) (fun hcnd => ?_) <;> (try simp at hcnd) <;> (try contradiction) <;> (try (exfalso; omega))) | refine Yc ?_ | (refine Yd ?_; simp only [X0, X1, X2, X3, X4, X5, X6, Nat.reduceBEq]) | (refine Ye ?_; refine Yf ?_) | refine Yg ?_ | (simp only [X0, X1, X2, X3, X4, X5, X6, Nat.reduceBEq]) | (clear hK K; first | (apply hK; clear hK K) | (clear hK K; first | (apply hK; clear hK K) | (clear hK K; first | (apply hK; clear hK K) | (clear hK K; apply hK; clear hK K)))))
    refine ⟨.bool false, [], ⟨false, rfl, trivial⟩, by simp, rfl, by simp, ?_⟩
    exact Le.mk [] (by simp [sget]) (rowsRen_of (by simp) (by simp [rowsOver])) (by simp)
  · repeat' (first | (refine Y0 rfl fun K9 h9 => ?_; simp (disch := (first | (simp; done) | omega | (simp; omega))) [h0]; (try simp (disch := (first | omega | (simp; omega))) only [X7, X8, X9, Xa, Xb, Xc]); ((repeat (refine Yz ?_)); (first | refine h9 _ _ (Ys ?_)); clear h9 K9)) | refine Y6 ?_ | (refine Y8 fun K hK => ?_) | refine Y9 ?_ | (apply hK; clear hK K) | refine Ya ?_ | (refine Yb rfl (fun hcnd => ?_) (fun hcnd => ?_) <;> (try simp at hcnd) <;> (try contradiction) <;> (try (exfalso; omega))) | refine Yc ?_ | (refine Yd ?_; simp only [X0, X1, X2, X3, X4, X5, X6, Nat.reduceBEq]) | (refine Ye ?_; refine Yf ?_) | refine Yg ?_ | (simp only [X0, X1, X2, X3, X4, X5, X6, Nat.reduceBEq]) | (clear hK K; first | (apply hK; clear hK K) | (clear hK K; first | (apply hK; clear hK K) | (clear hK K; first | (apply hK; clear hK K) | (clear hK K; apply hK; clear hK K)))))
    refine awp_loopU (α := Nat) (fun i => [some V.junk, some V.junk, none, none, none, none, some V.junk, none, some V.junk, some V.junk, some V.junk, some V.junk, some V.junk, none, none, some (V.int .i64 i), some V.junk, some V.junk, some V.junk, some V.junk, some V.junk, some V.junk, some V.junk, some V.junk]) (fun i => []) (fun i => i ≤ l.length) (fun i => l.length - i) 0 (by omega) ?_ ?_
    · dsimp only [ups_some, ups_none, ups_nil, ups_nil']
      exact Yr [] (by simp [rowsOver])
    rintro i hi KL hL
    dsimp only [ups_some, ups_none, ups_nil, ups_nil']
    rcases Nat.lt_or_ge i l.length with hi | hi
    · obtain ⟨x, hxx⟩ : ∃ x, l[i] = x := ⟨_, rfl⟩
      by_cases h1 : m < x.length
      · repeat' (first | (refine Y0 rfl fun K9 h9 => ?_; simp (disch := (first | (simp; done) | omega | (simp; omega))) [hxx, h1]; (try simp (disch := (first | omega | (simp; omega))) only [X7, X8, X9, Xa, Xb, Xc]); ((repeat (refine Yz ?_)); (first | refine h9 _ _ (Ys ?_)); clear h9 K9)) | refine Y6 ?_ | (refine Y8 fun K hK => ?_) | refine Y9 ?_ | (apply hK; clear hK K) | refine Ya ?_ | (refine Yb rfl (fun hcnd => ?_) (fun hcnd => ?_) <;> (try simp at hcnd) <;> (try contradiction) <;> (try (exfalso; omega))) | refine Yc ?_ | (refine Yd ?_; simp only [X0, X1, X2, X3, X4, X5, X6, Nat.reduceBEq]) | (refine Ye ?_; refine Yf ?_) | refine Yg ?_ | (simp only [X0, X1, X2, X3, X4, X5, X6, Nat.reduceBEq]) | (clear hK K; first | (apply hK; clear hK K) | (clear hK K; first | (apply hK; clear hK K) | (clear hK K; first | (apply hK; clear hK K) | (clear hK K; apply hK; clear hK K)))))
        refine ⟨.bool false, [], ⟨false, rfl, trivial⟩, by simp, rfl, by simp, ?_⟩
        exact Le.mk [] (by simp [sget]) (rowsRen_of (by simp) (by simp [rowsOver])) (by simp)
      · repeat' (first | (refine Y0 rfl fun K9 h9 => ?_; simp (disch := (first | (simp; done) | omega | (simp; omega))) [hxx, h1]; (try simp (disch := (first | omega | (simp; omega))) only [X7, X8, X9, Xa, Xb, Xc]); ((repeat (refine Yz ?_)); (first | refine h9 _ _ (Ys ?_)); clear h9 K9)) | refine Y6 ?_ | (refine Y8 fun K hK => ?_) | refine Y9 ?_ | (apply hK; clear hK K) | refine Ya ?_ | (refine Yb rfl (fun hcnd => ?_) (fun hcnd => ?_) <;> (try simp at hcnd) <;> (try contradiction) <;> (try (exfalso; omega))) | refine Yc ?_ | (refine Yd ?_; simp only [X0, X1, X2, X3, X4, X5, X6, Nat.reduceBEq]) | (refine Ye ?_; refine Yf ?_) | refine Yg ?_ | (simp only [X0, X1, X2, X3, X4, X5, X6, Nat.reduceBEq]) | (clear hK K; first | (apply hK; clear hK K) | (clear hK K; first | (apply hK; clear hK K) | (clear hK K; first | (apply hK; clear hK K) | (clear hK K; apply hK; clear hK K)))))
        refine hL (i + 1) _ _ (by omega) (by omega) ?_
        exact Yr [] (by simp [rowsOver])
    · repeat' (first | (refine Y0 rfl fun K9 h9 => ?_; simp (disch := (first | (simp; done) | omega | (simp; omega))); (try simp (disch := (first | omega | (simp; omega))) only [X7, X8, X9, Xa, Xb, Xc]); ((repeat (refine Yz ?_)); (first | refine h9 _ _ (Ys ?_)); clear h9 K9)) | refine Y6 ?_ | (refine Y8 fun K hK => ?_) | refine Y9 ?_ | (apply hK; clear hK K) | refine Ya ?_ | (refine Yb rfl (fun hcnd => ?_) (fun hcnd => ?_) <;> (try simp at hcnd) <;> (try contradiction) <;> (try (exfalso; omega))) | refine Yc ?_ | (refine Yd ?_; simp only [X0, X1, X2, X3, X4, X5, X6, Nat.reduceBEq]) | (refine Ye ?_; refine Yf ?_) | refine Yg ?_ | (simp only [X0, X1, X2, X3, X4, X5, X6, Nat.reduceBEq]) | (clear hK K; first | (apply hK; clear hK K) | (clear hK K; first | (apply hK; clear hK K) | (clear hK K; first | (apply hK; clear hK K) | (clear hK K; apply hK; clear hK K)))))
      refine ⟨.bool true, [], ⟨true, rfl, trivial⟩, by simp, rfl, by simp, ?_⟩
      exact Le.mk [] (by simp [sget]) (rowsRen_of (by simp) (by simp [rowsOver])) (by simp)


theorem shortPoints_eg (l : List Pt) : EG Try.prog 57 [.sl l.length (l.flatMap Pt.c)] [] (fun r _ => ∃ b : Bool, r = .bool b ∧ (b = true → True)) := by
  refine eg_body Try.func57 rfl Try.call57 ?_
  refine awp_slots (s' := [(.sl l.length (l.flatMap Pt.c) : V), .junk, .junk, .junk, .junk, .junk, .junk, .junk, .junk, .junk, .junk, .junk, .junk, .junk, .junk, .junk, .junk, .junk, .junk, .junk, .junk, .junk, .junk, .junk, .junk]) rfl ?_
  refine awp_rows (rows' := []) rfl ?_
  have hll := ptl_len l
  have hcells := pts_at l
  generalize l.flatMap Pt.c = cells at *
  by_cases h0 : (6 : Int) < l.length
  · repeat' (first | ((first | refine Y0 rfl fun K9 h9 => ?_ | (refine Y3 ?_ ?_; (focus (simp [h0]; done)); intro K9 h9)); simp (disch := (first | (simp; done) | omega | (simp; omega))) [h0]; (try simp (disch := (first | omega | (simp; omega))) only [X7, X8, X9, Xa, Xb, Xc]); ((repeat (refine Yz ?_)); (first | refine h9 _ _ (Ys ?_)); clear h9 K9)) | refine Y6 ?_ | (refine Y8 fun K hK => ?_) | refine Y9 ?_ | (apply hK; clear hK K) | refine Ya ?_ | (refine Yb rfl (fun hcnd => ?_) (fun hcnd => ?_) <;> (try simp at hcnd) <;> (try contradiction) <;> (try (exfalso; omega))) | refine Yc ?_ | (refine Yd ?_; simp only [X0, X1, X2, X3, X4, X5, X6, Nat.reduceBEq]) | (refine Ye ?_; refine Yf ?_) | (refine Yh ?_ ?_; (focus (simp [h0]; done)); refine Ys ?_) | refine Yg ?_ | (simp only [X0, X1, X2, X3, X4, X5, X6, Nat.reduceBEq]) | (clear hK K; first | (apply hK; clear hK K) | (clear hK K; first | (apply hK; clear hK K) | (clear hK K; first | (apply hK; clear hK K) | (clear hK K; apply hK; clear hK K)))))
    refine ⟨.bool false, [], ⟨false, rfl, by simp⟩, by simp, rfl, by simp, ?_⟩
    exact Le.mk [] (by simp [sget]) (rowsRen_of (by simp) (by simp [rowsOver])) (by simp)
  · repeat' (first | ((first | refine Y0 rfl fun K9 h9 => ?_ | (refine Y3 ?_ ?_; (focus (simp [h0]; done)); intro K9 h9)); simp (disch := (first | (simp; done) | omega | (simp; omega))) [h0]; (try simp (disch := (first | omega | (simp; omega))) only [X7, X8, X9, Xa, Xb, Xc]); ((repeat (refine Yz ?_)); (first | refine h9 _ _ (Ys ?_)); clear h9 K9)) | refine Y6 ?_ | (refine Y8 fun K hK => ?_) | refine Y9 ?_ | (apply hK; clear hK K) | refine Ya ?_ | (refine Yb rfl (fun hcnd => ?_) (fun hcnd => ?_) <;> (try simp at hcnd) <;> (try contradiction) <;> (try (exfalso; omega))) | refine Yc ?_ | (refine Yd ?_; simp only [X0, X1, X2, X3, X4, X5, X6, Nat.reduceBEq]) | (refine Ye ?_; refine Yf ?_) | (refine Yh ?_ ?_; (focus (simp [h0]; done)); refine Ys ?_) | refine Yg ?_ | (simp only [X0, X1, X2, X3, X4, X5, X6, Nat.reduceBEq]) | (clear hK K; first | (apply hK; clear hK K) | (clear hK K; first | (apply hK; clear hK K) | (clear hK K; first | (apply hK; clear hK K) | (clear hK K; apply hK; clear hK K)))))
    refine awp_loopU (α := Nat) (fun i => [some V.junk, none, some V.junk, none, some V.junk, some V.junk, some V.junk, some V.junk, none, none, some (V.int .i64 i), some V.junk, some V.junk, some V.junk, some V.junk, some V.junk, some V.junk, some V.junk, some V.junk, some V.junk, some V.junk, some V.junk, some V.junk, some V.junk, some V.junk]) (fun i => []) (fun i => i ≤ l.length ∧ ∀ j (h : j < l.length), j < i → True) (fun i => l.length - i) 0 ⟨by omega, fun j _ h => by omega⟩ ?_ ?_
    · dsimp only [ups_some, ups_none, ups_nil, ups_nil']
      exact Yr [] (by simp [rowsOver])
    rintro i ⟨hi, hall⟩ KL hL
    dsimp only [ups_some, ups_none, ups_nil, ups_nil']
    rcases Nat.lt_or_ge i l.length with hi | hi
    · have hstep : True → i + 1 ≤ l.length ∧ ∀ j (h : j < l.length), j < i + 1 → True := fun hx => ⟨by omega, fun j hj h => by
        rcases Nat.lt_or_ge j i with h3 | h3
        · exact hall j hj h3
        · obtain rfl : j = i := by omega
          exact hx⟩
      have hg := hcells i hi
      obtain ⟨x, hxx⟩ : ∃ x, l[i] = x := ⟨_, rfl⟩
      rw [hxx] at hg
      try rw [hxx] at hstep
      rw [show x.c = [gnsV x.names, .int .i64 x.reasons, .bool x.has, nmV x.issuer] from rfl] at hg
      clear hall
      have hgs : EG Try.prog 29 [gnsV x.names] [] (fun r _ => ∃ b : Bool, r = .bool b ∧ (b = true → WG x.names)) := shortNames_eg x.names
      have hsn := shortName_eg x.issuer
      repeat' (first | ((first | refine Yl rfl fun K9 h9 => ?_ | (refine Ym ?_ ?_; (focus (simp [hll, hg]; done)); intro K9 h9)); simp (disch := (first | (simp; done) | omega | (simp; omega))) [hll, hg]; (try simp (disch := (first | omega | (simp; omega))) only [X7, X8, X9, Xa, Xb, Xc]); ((first | (refine acall_eg [] hgs (by simp) (by simp [rowsOver]) ?_ rfl ?_; (focus (simp; done)); intro r rows' hR hr hl hps; obtain ⟨bg, rfl, hbg⟩ := hR; clear hr hps; obtain rfl := List.eq_nil_of_length_eq_zero hl; cases bg) | (refine acall_eg [] hsn (by simp) (by simp [rowsOver]) ?_ rfl ?_; (focus (simp; done)); intro r rows' hR hr hl hps; obtain ⟨bn, rfl, hbn⟩ := hR; clear hr hps; obtain rfl := List.eq_nil_of_length_eq_zero hl; cases bn) | skip) <;> ((repeat (refine Yz ?_)); (first | refine h9 _ _ (Yp ?_)); clear h9 K9))) | refine Yo ?_ | (refine Y8 fun K hK => ?_) | refine Yq ?_ | (apply hK; clear hK K) | refine Ya ?_ | (refine Yb rfl (fun hcnd => ?_) (fun hcnd => ?_) <;> (try simp at hcnd) <;> (try contradiction) <;> (try (exfalso; omega))) | refine Yc ?_ | (refine Yd ?_; simp only [X0, X1, X2, X3, X4, X5, X6, Nat.reduceBEq]) | (refine Ye ?_; refine Yf ?_) | (refine Yn ?_ ?_; (focus (simp [hll, hg]; done)); refine Yp ?_) | refine Yg ?_ | (simp only [X0, X1, X2, X3, X4, X5, X6, Nat.reduceBEq]) | (clear hK K; first | (apply hK; clear hK K) | (clear hK K; first | (apply hK; clear hK K) | (clear hK K; first | (apply hK; clear hK K) | (clear hK K; apply hK; clear hK K)))))
      · refine ⟨.bool false, [], ⟨false, rfl, by simp⟩, by simp, rfl, by simp, ?_⟩
        exact Le.mk [] (by simp [sget]) (rowsRen_of (by simp) (by simp [rowsOver])) (by simp)
      · refine ⟨.bool false, [], ⟨false, rfl, by simp⟩, by simp, rfl, by simp, ?_⟩
        exact Le.mk [] (by simp [sget]) (rowsRen_of (by simp) (by simp [rowsOver])) (by simp)
      · refine hL (i + 1) _ _ (hstep trivial) (by omega) ?_
        exact Yr [] (by simp [rowsOver])
    · repeat' (first | ((first | refine Y0 rfl fun K9 h9 => ?_ | (refine Y3 ?_ ?_; (focus (simp; done)); intro K9 h9)); simp (disch := (first | (simp; done) | omega | (simp; omega))); (try simp (disch := (first | omega | (simp; omega))) only [X7, X8, X9, Xa, Xb, Xc]); ((repeat (refine Yz ?_)); (first | refine h9 _ _ (Ys ?_)); clear h9 K9)) | refine Y6 ?_ | (refine Y8 fun K hK => ?_) | refine Y9 ?_ | (apply hK; clear hK K) | refine Ya ?_ | (refine Yb rfl (fun hcnd => ?_) (fun hcnd => ?_) <;> (try simp at hcnd) <;> (try contradiction) <;> (try (exfalso; omega))) | refine Yc ?_ | (refine Yd ?_; simp only [X0, X1, X2, X3, X4, X5, X6, Nat.reduceBEq]) | (refine Ye ?_; refine Yf ?_) | (refine Yh ?_ ?_; (focus (simp; done)); refine Ys ?_) | refine Yg ?_ | (simp only [X0, X1, X2, X3, X4, X5, X6, Nat.reduceBEq]) | (clear hK K; first | (apply hK; clear hK K) | (clear hK K; first | (apply hK; clear hK K) | (clear hK K; first | (apply hK; clear hK K) | (clear hK K; apply hK; clear hK K)))))
      refine ⟨.bool true, [], ⟨true, rfl, fun _ => trivial⟩, by simp, rfl, by simp, ?_⟩
      exact Le.mk [] (by simp [sget]) (rowsRen_of (by simp) (by simp [rowsOver])) (by simp)


theorem shortExts_eg (l : List Ex) : EG Try.prog 58 [.sl l.length (l.flatMap Ex.c)] [] (fun r _ => ∃ b : Bool, r = .bool b ∧ (b = true → l.length ≤ 65536)) := by
  refine eg_body Try.func58 rfl Try.call58 ?_
  refine awp_slots (s' := [(.sl l.length (l.flatMap Ex.c) : V), .junk, .junk, .junk, .junk, .junk, .junk, .junk, .junk, .junk, .junk, .junk, .junk, .junk, .junk, .junk, .junk, .junk, .junk, .junk, .junk, .junk, .junk, .junk, .junk]) rfl ?_
  refine awp_rows (rows' := []) rfl ?_
  have hll := exs_len l
  have hcells := exs_at l
  generalize l.flatMap Ex.c = cells at *
  by_cases h0 : (30 : Int) < l.length
  · repeat' (first | ((first | refine Y0 rfl fun K9 h9 => ?_ | (refine Y3 ?_ ?_; (focus (simp [h0]; done)); intro K9 h9)); simp (disch := (first | (simp; done) | omega | (simp; omega))) [h0]; (try simp (disch := (first | omega | (simp; omega))) only [X7, X8, X9, Xa, Xb, Xc]); ((repeat (refine Yz ?_)); (first | refine h9 _ _ (Ys ?_)); clear h9 K9)) | refine Y6 ?_ | (refine Y8 fun K hK => ?_) | refine Y9 ?_ | (apply hK; clear hK K) | refine Ya ?_ | (refine Yb rfl (fun hcnd => ?_) (fun hcnd => ?_) <;> (try simp at hcnd) <;> (try contradiction) <;> (try (exfalso; omega))) | refine Yc ?_ | (refine Yd ?_; simp only [X0, X1, X2, X3, X4, X5, X6, Nat.reduceBEq]) | (refine Ye ?_; refine Yf ?_) | (refine Yh ?_ ?_; (focus (simp [h0]; done)); refine Ys ?_) | refine Yg ?_ | (simp only [X0, X1, X2, X3, X4, X5, X6, Nat.reduceBEq]) | (clear hK K; first | (apply hK; clear hK K) | (clear hK K; first | (apply hK; clear hK K) | (clear hK K; first | (apply hK; clear hK K) | (clear hK K; apply hK; clear hK K)))))
    refine ⟨.bool false, [], ⟨false, rfl, by simp⟩, by simp, rfl, by simp, ?_⟩
    exact Le.mk [] (by simp [sget]) (rowsRen_of (by simp) (by simp [rowsOver])) (by simp)
  · repeat' (first | ((first | refine Y0 rfl fun K9 h9 => ?_ | (refine Y3 ?_ ?_; (focus (simp [h0]; done)); intro K9 h9)); simp (disch := (first | (simp; done) | omega | (simp; omega))) [h0]; (try simp (disch := (first | omega | (simp; omega))) only [X7, X8, X9, Xa, Xb, Xc]); ((repeat (refine Yz ?_)); (first | refine h9 _ _ (Ys ?_)); clear h9 K9)) | refine Y6 ?_ | (refine Y8 fun K hK => ?_) | refine Y9 ?_ | (apply hK; clear hK K) | refine Ya ?_ | (refine Yb rfl (fun hcnd => ?_) (fun hcnd => ?_) <;> (try simp at hcnd) <;> (try contradiction) <;> (try (exfalso; omega))) | refine Yc ?_ | (refine Yd ?_; simp only [X0, X1, X2, X3, X4, X5, X6, Nat.reduceBEq]) | (refine Ye ?_; refine Yf ?_) | (refine Yh ?_ ?_; (focus (simp [h0]; done)); refine Ys ?_) | refine Yg ?_ | (simp only [X0, X1, X2, X3, X4, X5, X6, Nat.reduceBEq]) | (clear hK K; first | (apply hK; clear hK K) | (clear hK K; first | (apply hK; clear hK K) | (clear hK K; first | (apply hK; clear hK K) | (clear hK K; apply hK; clear hK K)))))
    refine awp_loopU (α := Nat) (fun i => [some V.junk, none, some V.junk, none, some V.junk, some V.junk, some V.junk, some V.junk, none, none, some (V.int .i64 i), some V.junk, some V.junk, some V.junk, some V.junk, some V.junk, some V.junk, some V.junk, some V.junk, some V.junk, some V.junk, some V.junk, some V.junk, some V.junk, some V.junk]) (fun i => []) (fun i => i ≤ l.length ∧ ∀ j (h : j < l.length), j < i → True) (fun i => l.length - i) 0 ⟨by omega, fun j _ h => by omega⟩ ?_ ?_
    · dsimp only [ups_some, ups_none, ups_nil, ups_nil']
      exact Yr [] (by simp [rowsOver])
    rintro i ⟨hi, hall⟩ KL hL
    dsimp only [ups_some, ups_none, ups_nil, ups_nil']
    rcases Nat.lt_or_ge i l.length with hi | hi
    · have hstep : True → i + 1 ≤ l.length ∧ ∀ j (h : j < l.length), j < i + 1 → True := fun hx => ⟨by omega, fun j hj h => by
        rcases Nat.lt_or_ge j i with h3 | h3
        · exact hall j hj h3
        · obtain rfl : j = i := by omega
          exact hx⟩
      have hg := hcells i hi
      obtain ⟨x, hxx⟩ : ∃ x, l[i] = x := ⟨_, rfl⟩
      rw [hxx] at hg
      try rw [hxx] at hstep
      rw [show x.c = [.str x.id, .bool x.crit, .str x.v] from rfl] at hg
      clear hall
      by_cases h1 : (200 : Int) < x.id.length
      · repeat' (first | ((first | refine Yl rfl fun K9 h9 => ?_ | (refine Ym ?_ ?_; (focus (simp [hll, hg, h1]; done)); intro K9 h9)); simp (disch := (first | (simp; done) | omega | (simp; omega))) [hll, hg, h1]; (try simp (disch := (first | omega | (simp; omega))) only [X7, X8, X9, Xa, Xb, Xc]); ((repeat (refine Yz ?_)); (first | refine h9 _ _ (Yp ?_)); clear h9 K9)) | refine Yo ?_ | (refine Y8 fun K hK => ?_) | refine Yq ?_ | (apply hK; clear hK K) | refine Ya ?_ | (refine Yb rfl (fun hcnd => ?_) (fun hcnd => ?_) <;> (try simp at hcnd) <;> (try contradiction) <;> (try (exfalso; omega))) | refine Yc ?_ | (refine Yd ?_; simp only [X0, X1, X2, X3, X4, X5, X6, Nat.reduceBEq]) | (refine Ye ?_; refine Yf ?_) | (refine Yn ?_ ?_; (focus (simp [hll, hg, h1]; done)); refine Yp ?_) | refine Yg ?_ | (simp only [X0, X1, X2, X3, X4, X5, X6, Nat.reduceBEq]) | (clear hK K; first | (apply hK; clear hK K) | (clear hK K; first | (apply hK; clear hK K) | (clear hK K; first | (apply hK; clear hK K) | (clear hK K; apply hK; clear hK K)))))
        refine ⟨.bool false, [], ⟨false, rfl, by simp⟩, by simp, rfl, by simp, ?_⟩
        exact Le.mk [] (by simp [sget]) (rowsRen_of (by simp) (by simp [rowsOver])) (by simp)
      · by_cases h2 : (300 : Int) < x.v.length
        · repeat' (first | ((first | refine Yl rfl fun K9 h9 => ?_ | (refine Ym ?_ ?_; (focus (simp [hll, hg, h1, h2]; done)); intro K9 h9)); simp (disch := (first | (simp; done) | omega | (simp; omega))) [hll, hg, h1, h2]; (try simp (disch := (first | omega | (simp; omega))) only [X7, X8, X9, Xa, Xb, Xc]); ((repeat (refine Yz ?_)); (first | refine h9 _ _ (Yp ?_)); clear h9 K9)) | refine Yo ?_ | (refine Y8 fun K hK => ?_) | refine Yq ?_ | (apply hK; clear hK K) | refine Ya ?_ | (refine Yb rfl (fun hcnd => ?_) (fun hcnd => ?_) <;> (try simp at hcnd) <;> (try contradiction) <;> (try (exfalso; omega))) | refine Yc ?_ | (refine Yd ?_; simp only [X0, X1, X2, X3, X4, X5, X6, Nat.reduceBEq]) | (refine Ye ?_; refine Yf ?_) | (refine Yn ?_ ?_; (focus (simp [hll, hg, h1, h2]; done)); refine Yp ?_) | refine Yg ?_ | (simp only [X0, X1, X2, X3, X4, X5, X6, Nat.reduceBEq]) | (clear hK K; first | (apply hK; clear hK K) | (clear hK K; first | (apply hK; clear hK K) | (clear hK K; first | (apply hK; clear hK K) | (clear hK K; apply hK; clear hK K)))))
          refine ⟨.bool false, [], ⟨false, rfl, by simp⟩, by simp, rfl, by simp, ?_⟩
          exact Le.mk [] (by simp [sget]) (rowsRen_of (by simp) (by simp [rowsOver])) (by simp)
        · repeat' (first | ((first | refine Yl rfl fun K9 h9 => ?_ | (refine Ym ?_ ?_; (focus (simp [hll, hg, h1, h2]; done)); intro K9 h9)); simp (disch := (first | (simp; done) | omega | (simp; omega))) [hll, hg, h1, h2]; (try simp (disch := (first | omega | (simp; omega))) only [X7, X8, X9, Xa, Xb, Xc]); ((repeat (refine Yz ?_)); (first | refine h9 _ _ (Yp ?_)); clear h9 K9)) | refine Yo ?_ | (refine Y8 fun K hK => ?_) | refine Yq ?_ | (apply hK; clear hK K) | refine Ya ?_ | (refine Yb rfl (fun hcnd => ?_) (fun hcnd => ?_) <;> (try simp at hcnd) <;> (try contradiction) <;> (try (exfalso; omega))) | refine Yc ?_ | (refine Yd ?_; simp only [X0, X1, X2, X3, X4, X5, X6, Nat.reduceBEq]) | (refine Ye ?_; refine Yf ?_) | (refine Yn ?_ ?_; (focus (simp [hll, hg, h1, h2]; done)); refine Yp ?_) | refine Yg ?_ | (simp only [X0, X1, X2, X3, X4, X5, X6, Nat.reduceBEq]) | (clear hK K; first | (apply hK; clear hK K) | (clear hK K; first | (apply hK; clear hK K) | (clear hK K; first | (apply hK; clear hK K) | (clear hK K; apply hK; clear hK K)))))
          refine hL (i + 1) _ _ (hstep trivial) (by omega) ?_
          exact Yr [] (by simp [rowsOver])
    · repeat' (first | ((first | refine Y0 rfl fun K9 h9 => ?_ | (refine Y3 ?_ ?_; (focus (simp; done)); intro K9 h9)); simp (disch := (first | (simp; done) | omega | (simp; omega))); (try simp (disch := (first | omega | (simp; omega))) only [X7, X8, X9, Xa, Xb, Xc]); ((repeat (refine Yz ?_)); (first | refine h9 _ _ (Ys ?_)); clear h9 K9)) | refine Y6 ?_ | (refine Y8 fun K hK => ?_) | refine Y9 ?_ | (apply hK; clear hK K) | refine Ya ?_ | (refine Yb rfl (fun hcnd => ?_) (fun hcnd => ?_) <;> (try simp at hcnd) <;> (try contradiction) <;> (try (exfalso; omega))) | refine Yc ?_ | (refine Yd ?_; simp only [X0, X1, X2, X3, X4, X5, X6, Nat.reduceBEq]) | (refine Ye ?_; refine Yf ?_) | (refine Yh ?_ ?_; (focus (simp; done)); refine Ys ?_) | refine Yg ?_ | (simp only [X0, X1, X2, X3, X4, X5, X6, Nat.reduceBEq]) | (clear hK K; first | (apply hK; clear hK K) | (clear hK K; first | (apply hK; clear hK K) | (clear hK K; first | (apply hK; clear hK K) | (clear hK K; apply hK; clear hK K)))))
      refine ⟨.bool true, [], ⟨true, rfl, fun _ => by omega⟩, by simp, rfl, by simp, ?_⟩
      exact Le.mk [] (by simp [sget]) (rowsRen_of (by simp) (by simp [rowsOver])) (by simp)

end Go.Proofs.Ytjlifjmjnhdcmaa
