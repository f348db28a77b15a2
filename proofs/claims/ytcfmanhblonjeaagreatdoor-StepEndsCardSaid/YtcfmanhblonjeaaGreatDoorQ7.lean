/-
  STEP: names compared by the reference.
  Conditions: none.
-/
import Derived.Test.YtcfmanhblonjeaaGreatDoorGe
import Derived.Test.YtcfmanhblonjeaaGreatDoorGf
import Derived.Test.YtcfmanhblonjeaaGreatDoorGg
import Derived.Test.YtcfmanhblonjeaaGreatDoorGh
import Derived.Test.YtcfmanhblonjeaaGreatDoorGj
import Derived.Test.YtcfmanhblonjeaaGreatDoorQ6
import Derived.Test.YtcfmanhblonjeaaGreatDoorTab
import Derived.Test.YtcfmanhblonjeaaGreatDoorGd
import Derived.Test.YtcfmanhblonjeaaGreatDoorGi
namespace Go.Proofs.YtcfmanhblonjeaaGreatDoor
open Go.VS Go.Stp
set_option linter.all false
attribute [local irreducible] arun arunD AWp aend
theorem rhas_call (r : List At) (a : At) (hl : r.length ≤ 65536) (hr : ∀ b ∈ r, b.v.length ≤ 65536) (ha : a.v.length ≤ 65536) : PCall Tryz.prog 143 [atsV r, .agg a.c] (.bool (hasB r a)) := by
  show PCall _ _ [.sl r.length (r.flatMap At.c), .agg [.str a.t, .int .i64 a.k, .str a.v]] _
  refine pcall_body Tryz.func143 rfl Tryz.call143 ?_ ?_
  rotate_left 1
  refine awp_slots (s' := (.sl r.length (r.flatMap At.c) : V) :: (.agg [.str a.t, .int .i64 a.k, .str a.v] : V) :: zJ 24) rfl ?_; dsimp only [zJ]
  have hll := ats_len r
  have hcells := ats_at r
  generalize r.flatMap At.c = cells at *
  repeat' (first | ((first | refine Y0 rfl fun K9 h9 => ?_ | (refine Y3 ?_ ?_; (focus (simp; done)); intro K9 h9)); simp (disch := first | exact dd | fail); (try simp (disch := first | exact de | fail) only [X7]); ((repeat (refine Yz ?_)); (first | refine h9 _ _ (Ys ?_)); clear h9 K9)) | refine Y6 ?_ | (refine Y8 fun K hK => ?_) | refine Y9 ?_ | (apply hK; clear hK K) | refine Ya ?_ | (refine Yb rfl ?_ ?_ <;> intro hcnd <;> (try simp at hcnd) <;> try exact dc) | refine Yc ?_ | (refine Yd ?_; simp only [X0, Nat.reduceBEq]) | (refine Ye ?_; refine Yf ?_) | (refine Yh ?_ ?_; (focus (simp; done)); refine Ys ?_) | refine Yg ?_ | (simp only [X0, Nat.reduceBEq]) | clear hK K)
  · refine awp_loopU (α := Nat) (fun i => (zS 2 (zN 2 (some V.junk :: none :: some V.junk :: zN 2 (some (V.int .i64 i) :: zS 16 []))))) (fun i => [.live [.str a.t, .int .i64 a.k, .str a.v]]) (fun i => i ≤ r.length ∧ ∀ j (h : j < r.length), j < i → eqA a r[j] = false) (fun i => r.length - i) 0 ⟨by omega, fun j _ h => by omega⟩ ?_ ?_
    · dsimp only [ups, zN, zS]
      exact Yr [some 0] (by simp [rowsOver])
    rintro i ⟨hi, hall⟩ KL hL
    dsimp only [ups, zN, zS]
    rcases Nat.lt_or_ge i r.length with hi | hi
    · have hstep : eqA a r[i] = false → i + 1 ≤ r.length ∧ ∀ j (h : j < r.length), j < i + 1 → eqA a r[j] = false := fun hx => ⟨by omega, fun j hj h => by
        rcases Nat.lt_or_ge j i with h3 | h3
        · exact hall j hj h3
        · obtain rfl : j = i := by omega
          exact hx⟩
      have htrue : eqA a r[i] = true → hasB r a = true := any_true hi
      have hg := hcells i hi
      have hx : r[i].v.length ≤ 65536 := hr _ (List.getElem_mem _)
      obtain ⟨x, hxx⟩ : ∃ x, r[i] = x := ⟨_, rfl⟩
      rw [hxx] at hstep htrue hg hx
      rw [show x.c = [.str x.t, .int .i64 x.k, .str x.v] from rfl] at hg
      have hm := rtmatch_call x.v a.v hx ha
      by_cases h1 : a.t = x.t
      · by_cases h2 : foldB a.v = foldB x.v
        · repeat' (first | ((first | refine Y0 rfl fun K9 h9 => ?_ | (refine Y3 ?_ ?_; (focus (simp [hg, h1, h2]; done)); intro K9 h9)); simp (disch := first | exact dd | fail) [hg, h1, h2]; (try simp (disch := first | exact de | fail) only [X7]); ((first | refine Ap hm ?_ | skip) <;> ((repeat (refine Yz ?_)); (first | refine h9 _ _ (Ys ?_)); clear h9 K9))) | refine Y6 ?_ | (refine Y8 fun K hK => ?_) | refine Y9 ?_ | (apply hK; clear hK K) | refine Ya ?_ | (refine Yb rfl ?_ ?_ <;> intro hcnd <;> (try simp at hcnd) <;> try exact dc) | refine Yc ?_ | (refine Yd ?_; simp only [X0, Nat.reduceBEq]) | (refine Ye ?_; refine Yf ?_) | (refine Yh ?_ ?_; (focus (simp [hg, h1, h2]; done)); refine Ys ?_) | refine Yg ?_ | (simp only [X0, Nat.reduceBEq]) | clear hK K)
          rw [htrue (by simp [eqA, h1, h2])]
          exact .pure .bool
        · have h3 : ¬ foldB x.v = foldB a.v := fun e => h2 e.symm
          repeat' (first | ((first | refine Y0 rfl fun K9 h9 => ?_ | (refine Y3 ?_ ?_; (focus (simp [hg, h1, h2, h3]; done)); intro K9 h9)); simp (disch := first | exact dd | fail) [hg, h1, h2, h3]; (try simp (disch := first | exact de | fail) only [X7]); ((first | refine Ap hm ?_ | skip) <;> ((repeat (refine Yz ?_)); (first | refine h9 _ _ (Ys ?_)); clear h9 K9))) | refine Y6 ?_ | (refine Y8 fun K hK => ?_) | refine Y9 ?_ | (apply hK; clear hK K) | refine Ya ?_ | (refine Yb rfl ?_ ?_ <;> intro hcnd <;> (try simp at hcnd) <;> try exact dc) | refine Yc ?_ | (refine Yd ?_; simp only [X0, Nat.reduceBEq]) | (refine Ye ?_; refine Yf ?_) | (refine Yh ?_ ?_; (focus (simp [hg, h1, h2, h3]; done)); refine Ys ?_) | refine Yg ?_ | (simp only [X0, Nat.reduceBEq]) | clear hK K)
          refine hL (i + 1) _ _ (hstep (by simp [eqA, h2])) (by omega) ?_
          exact Yr [some 0] (by simp [rowsOver, h1])
      · have h3 : ¬ x.t = a.t := fun e => h1 e.symm
        repeat' (first | ((first | refine Y0 rfl fun K9 h9 => ?_ | (refine Y3 ?_ ?_; (focus (simp [hg, h1, h3]; done)); intro K9 h9)); simp (disch := first | exact dd | fail) [hg, h1, h3]; (try simp (disch := first | exact de | fail) only [X7]); ((first | refine Ap hm ?_ | skip) <;> ((repeat (refine Yz ?_)); (first | refine h9 _ _ (Ys ?_)); clear h9 K9))) | refine Y6 ?_ | (refine Y8 fun K hK => ?_) | refine Y9 ?_ | (apply hK; clear hK K) | refine Ya ?_ | (refine Yb rfl ?_ ?_ <;> intro hcnd <;> (try simp at hcnd) <;> try exact dc) | refine Yc ?_ | (refine Yd ?_; simp only [X0, Nat.reduceBEq]) | (refine Ye ?_; refine Yf ?_) | (refine Yh ?_ ?_; (focus (simp [hg, h1, h3]; done)); refine Ys ?_) | refine Yg ?_ | (simp only [X0, Nat.reduceBEq]) | clear hK K)
        refine hL (i + 1) _ _ (hstep (by simp [eqA, h1])) (by omega) ?_
        exact Yr [some 0] (by simp [rowsOver])
    · repeat' (first | ((first | refine Y0 rfl fun K9 h9 => ?_ | (refine Y3 ?_ ?_; (focus (simp; done)); intro K9 h9)); simp (disch := first | exact dd | fail); (try simp (disch := first | exact de | fail) only [X7]); ((repeat (refine Yz ?_)); (first | refine h9 _ _ (Ys ?_)); clear h9 K9)) | refine Y6 ?_ | (refine Y8 fun K hK => ?_) | refine Y9 ?_ | (apply hK; clear hK K) | refine Ya ?_ | (refine Yb rfl ?_ ?_ <;> intro hcnd <;> (try simp at hcnd) <;> try exact dc) | refine Yc ?_ | (refine Yd ?_; simp only [X0, Nat.reduceBEq]) | (refine Ye ?_; refine Yf ?_) | (refine Yh ?_ ?_; (focus (simp; done)); refine Ys ?_) | refine Yg ?_ | (simp only [X0, Nat.reduceBEq]) | clear hK K)
      rw [show hasB r a = false from any_false fun j hj => hall j hj (by omega)]
      exact .pure .bool
  · exact .bool

theorem rsame_call (a b : List At) (hla : a.length ≤ 65536) (ha : ∀ x ∈ a, x.v.length ≤ 65536) (hlb : b.length ≤ 65536) (hb : ∀ x ∈ b, x.v.length ≤ 65536) : PCall Tryz.prog 129 [atsV a, atsV b] (.bool (sameB a b)) := by
  show PCall _ _ [.sl a.length (a.flatMap At.c), .sl b.length (b.flatMap At.c)] _
  refine pcall_body Tryz.func129 rfl Tryz.call129 ?_ ?_
  rotate_left 1
  refine awp_slots (s' := (.sl a.length (a.flatMap At.c) : V) :: (.sl b.length (b.flatMap At.c) : V) :: zJ 31) rfl ?_; dsimp only [zJ]
  by_cases h0 : ¬ (a.length : Int) = b.length
  · repeat' (first | ((first | refine Y0 rfl fun K9 h9 => ?_ | (refine Y3 ?_ ?_; (focus (simp [h0]; done)); intro K9 h9)); simp (disch := first | exact dd | fail) [h0]; (try simp (disch := first | exact de | fail) only [X7]); ((repeat (refine Yz ?_)); (first | refine h9 _ _ (Ys ?_)); clear h9 K9)) | refine Y6 ?_ | (refine Y8 fun K hK => ?_) | refine Y9 ?_ | (apply hK; clear hK K) | refine Ya ?_ | (refine Yb rfl ?_ ?_ <;> intro hcnd <;> (try simp at hcnd) <;> try exact dc) | refine Yc ?_ | (refine Yd ?_; simp only [X0, Nat.reduceBEq]) | (refine Ye ?_; refine Yf ?_) | (refine Yh ?_ ?_; (focus (simp [h0]; done)); refine Ys ?_) | refine Yg ?_ | (simp only [X0, Nat.reduceBEq]) | clear hK K)
    rw [show sameB a b = false by simp [sameB]; omega]
    exact .pure .bool
  replace h0 : (a.length : Int) = b.length := by omega
  have hE : sameB a b = (a.all (hasB b) && b.all (hasB a)) := by simp [sameB]; omega
  rw [hE]
  have hm1 : ∀ x ∈ a, PCall Tryz.prog 143 [.sl b.length (b.flatMap At.c), .agg [.str x.t, .int .i64 x.k, .str x.v]] (.bool (hasB b x)) := fun x hx => rhas_call b x hlb hb (ha _ hx)
  have hm2 : ∀ x ∈ b, PCall Tryz.prog 143 [.sl a.length (a.flatMap At.c), .agg [.str x.t, .int .i64 x.k, .str x.v]] (.bool (hasB a x)) := fun x hx => rhas_call a x hla ha (hb _ hx)
  have hll := ats_len a
  have hcells := ats_at a
  have hll2 := ats_len b
  have hcells2 := ats_at b
  generalize a.flatMap At.c = ca at *
  generalize b.flatMap At.c = cb at *
  repeat' (first | ((first | refine Y0 rfl fun K9 h9 => ?_ | (refine Y3 ?_ ?_; (focus (simp [h0]; done)); intro K9 h9)); simp (disch := first | exact dd | fail) [h0]; (try simp (disch := first | exact de | fail) only [X7]); ((repeat (refine Yz ?_)); (first | refine h9 _ _ (Ys ?_)); clear h9 K9)) | refine Y6 ?_ | (refine Y8 fun K hK => ?_) | refine Y9 ?_ | (apply hK; clear hK K) | refine Ya ?_ | (refine Yb rfl ?_ ?_ <;> intro hcnd <;> (try simp at hcnd) <;> try exact dc) | refine Yc ?_ | (refine Yd ?_; simp only [X0, Nat.reduceBEq]) | (refine Ye ?_; refine Yf ?_) | (refine Yh ?_ ?_; (focus (simp [h0]; done)); refine Ys ?_) | refine Yg ?_ | (simp only [X0, Nat.reduceBEq]) | clear hK K)
  · refine awp_loopU (α := Nat) (fun i => (zN 4 (zS 8 (none :: some (V.int .i64 i) :: zS 19 [])))) (fun i => []) (fun i => i ≤ b.length ∧ ∀ j (h : j < b.length), j < i → hasB b (a[j]'(by omega)) = true ∧ hasB a b[j] = true) (fun i => b.length - i) 0 ⟨by omega, fun j _ h => by omega⟩ ?_ ?_
    · dsimp only [ups, zN, zS]
      exact Yr [] (by simp [rowsOver])
    rintro i ⟨hi, hall⟩ KL hL
    dsimp only [ups, zN, zS]
    rcases Nat.lt_or_ge i b.length with hi | hi
    · have hia : i < a.length := by omega
      have hstep : hasB b a[i] = true → hasB a b[i] = true → i + 1 ≤ b.length ∧ ∀ j (h : j < b.length), j < i + 1 → hasB b (a[j]'(by omega)) = true ∧ hasB a b[j] = true := fun hx hy => ⟨by omega, fun j hj h => by
        rcases Nat.lt_or_ge j i with h3 | h3
        · exact hall j hj h3
        · obtain rfl : j = i := by omega
          exact ⟨hx, hy⟩⟩
      have hf1 : hasB b a[i] = false → (a.all (hasB b) && b.all (hasB a)) = false := fun h => by rw [all_false hia h]; rfl
      have hf2 : hasB a b[i] = false → (a.all (hasB b) && b.all (hasB a)) = false := fun h => by rw [all_false hi h, Bool.and_false]
      have hg := hcells i hia
      have hg2 := hcells2 i hi
      have hm := hm1 a[i] (List.getElem_mem _)
      have hm2 := hm2 b[i] (List.getElem_mem _)
      obtain ⟨x, hxx⟩ : ∃ x, a[i] = x := ⟨_, rfl⟩
      obtain ⟨y, hyy⟩ : ∃ x, b[i] = x := ⟨_, rfl⟩
      rw [hxx] at hstep hg hm hf1
      rw [hyy] at hstep hg2 hm2 hf2
      rw [show x.c = [.str x.t, .int .i64 x.k, .str x.v] from rfl] at hg
      rw [show y.c = [.str y.t, .int .i64 y.k, .str y.v] from rfl] at hg2
      cases h1 : hasB b x
      · rw [h1] at hm
        repeat' (first | ((first | refine Y0 rfl fun K9 h9 => ?_ | (refine Y3 ?_ ?_; (focus (simp [h0, hg, hg2, h1]; done)); intro K9 h9)); simp (disch := first | exact dd | fail) [h0, hg, hg2, h1]; (try simp (disch := first | exact de | fail) only [X7]); ((first | refine Ap hm ?_ | refine Ap hm2 ?_ | skip) <;> ((repeat (refine Yz ?_)); (first | refine h9 _ _ (Ys ?_)); clear h9 K9))) | refine Y6 ?_ | (refine Y8 fun K hK => ?_) | refine Y9 ?_ | (apply hK; clear hK K) | refine Ya ?_ | (refine Yb rfl ?_ ?_ <;> intro hcnd <;> (try simp at hcnd) <;> try exact dc) | refine Yc ?_ | (refine Yd ?_; simp only [X0, Nat.reduceBEq]) | (refine Ye ?_; refine Yf ?_) | (refine Yh ?_ ?_; (focus (simp [h0, hg, hg2, h1]; done)); refine Ys ?_) | refine Yg ?_ | (simp only [X0, Nat.reduceBEq]) | clear hK K)
        rw [hf1 h1]
        exact .pure .bool
      · cases h2 : hasB a y
        · rw [h1] at hm
          rw [h2] at hm2
          repeat' (first | ((first | refine Y0 rfl fun K9 h9 => ?_ | (refine Y3 ?_ ?_; (focus (simp [h0, hg, hg2, h1, h2]; done)); intro K9 h9)); simp (disch := first | exact dd | fail) [h0, hg, hg2, h1, h2]; (try simp (disch := first | exact de | fail) only [X7]); ((first | refine Ap hm ?_ | refine Ap hm2 ?_ | skip) <;> ((repeat (refine Yz ?_)); (first | refine h9 _ _ (Ys ?_)); clear h9 K9))) | refine Y6 ?_ | (refine Y8 fun K hK => ?_) | refine Y9 ?_ | (apply hK; clear hK K) | refine Ya ?_ | (refine Yb rfl ?_ ?_ <;> intro hcnd <;> (try simp at hcnd) <;> try exact dc) | refine Yc ?_ | (refine Yd ?_; simp only [X0, Nat.reduceBEq]) | (refine Ye ?_; refine Yf ?_) | (refine Yh ?_ ?_; (focus (simp [h0, hg, hg2, h1, h2]; done)); refine Ys ?_) | refine Yg ?_ | (simp only [X0, Nat.reduceBEq]) | clear hK K)
          rw [hf2 h2]
          exact .pure .bool
        · rw [h1] at hm
          rw [h2] at hm2
          repeat' (first | ((first | refine Y0 rfl fun K9 h9 => ?_ | (refine Y3 ?_ ?_; (focus (simp [h0, hg, hg2, h1, h2]; done)); intro K9 h9)); simp (disch := first | exact dd | fail) [h0, hg, hg2, h1, h2]; (try simp (disch := first | exact de | fail) only [X7]); ((first | refine Ap hm ?_ | refine Ap hm2 ?_ | skip) <;> ((repeat (refine Yz ?_)); (first | refine h9 _ _ (Ys ?_)); clear h9 K9))) | refine Y6 ?_ | (refine Y8 fun K hK => ?_) | refine Y9 ?_ | (apply hK; clear hK K) | refine Ya ?_ | (refine Yb rfl ?_ ?_ <;> intro hcnd <;> (try simp at hcnd) <;> try exact dc) | refine Yc ?_ | (refine Yd ?_; simp only [X0, Nat.reduceBEq]) | (refine Ye ?_; refine Yf ?_) | (refine Yh ?_ ?_; (focus (simp [h0, hg, hg2, h1, h2]; done)); refine Ys ?_) | refine Yg ?_ | (simp only [X0, Nat.reduceBEq]) | clear hK K)
          refine hL (i + 1) _ _ (hstep h1 h2) (by omega) ?_
          exact Yr [] (by simp [rowsOver])
    · repeat' (first | ((first | refine Y0 rfl fun K9 h9 => ?_ | (refine Y3 ?_ ?_; (focus (simp [h0]; done)); intro K9 h9)); simp (disch := first | exact dd | fail) [h0]; (try simp (disch := first | exact de | fail) only [X7]); ((repeat (refine Yz ?_)); (first | refine h9 _ _ (Ys ?_)); clear h9 K9)) | refine Y6 ?_ | (refine Y8 fun K hK => ?_) | refine Y9 ?_ | (apply hK; clear hK K) | refine Ya ?_ | (refine Yb rfl ?_ ?_ <;> intro hcnd <;> (try simp at hcnd) <;> try exact dc) | refine Yc ?_ | (refine Yd ?_; simp only [X0, Nat.reduceBEq]) | (refine Ye ?_; refine Yf ?_) | (refine Yh ?_ ?_; (focus (simp [h0]; done)); refine Ys ?_) | refine Yg ?_ | (simp only [X0, Nat.reduceBEq]) | clear hK K)
      rw [all_true fun j hj => (hall j (by omega) (by omega)).1, all_true fun j hj => (hall j hj (by omega)).2]
      exact .pure .bool
  · exact .bool

theorem rwithin_call (a b : Nm) (ha : WN a) (hb : WN b) : PCall Tryz.prog 109 [.agg [nmV a], .agg [nmV b]] (.bool (withinB a b)) := by
  unfold nmV
  refine pcall_body Tryz.func109 rfl Tryz.call109 ?_ ?_
  rotate_left 1
  refine awp_slots (s' := (.agg [.sl a.length (a.map atsV)] : V) :: (.agg [.sl b.length (b.map atsV)] : V) :: zJ 30) rfl ?_; dsimp only [zJ]
  by_cases h0 : (a.length : Int) < b.length
  · repeat' (first | ((first | refine Y0 rfl fun K9 h9 => ?_ | refine Y1 rfl rfl fun K9 h9 => ?_ | refine Y2 rfl rfl fun K9 h9 => ?_); simp (disch := first | exact dd | fail) [h0]; (try simp (disch := first | exact de | fail) only [X7]); ((repeat (refine Yz ?_)); (first | refine h9 _ _ (Ys ?_) | refine h9 _ _ (Yt ?_)); clear h9 K9)) | refine Y6 ?_ | refine Y7 ?_ | (refine Y8 fun K hK => ?_) | refine Y9 ?_ | (apply hK; clear hK K) | ((first | refine Yk (m := 0) (by decide +kernel) [] (by kernel_rfl) (by decide +kernel) ?_); simp only [List.replicate, XL]) | refine Ya ?_ | (refine Yb rfl ?_ ?_ <;> intro hcnd <;> (try simp at hcnd) <;> try exact dc) | refine Yc ?_ | (refine Yd ?_; simp only [X0, Nat.reduceBEq]) | (refine Ye ?_; refine Yf ?_) | refine Yg ?_ | (simp only [X0, Nat.reduceBEq]) | clear hK K)
    rw [show withinB a b = false by simp [withinB]; omega]
    exact .pure .bool
  have hla := ha.1
  have hlb := hb.1
  have h0' : b.length ≤ a.length := by omega
  repeat' (first | ((first | refine Y0 rfl fun K9 h9 => ?_ | refine Y1 rfl rfl fun K9 h9 => ?_ | refine Y2 rfl rfl fun K9 h9 => ?_); simp (disch := first | exact dd | fail) [h0]; (try simp (disch := first | exact de | fail) only [X7]); ((repeat (refine Yz ?_)); (first | refine h9 _ _ (Ys ?_) | refine h9 _ _ (Yt ?_)); clear h9 K9)) | refine Y6 ?_ | refine Y7 ?_ | (refine Y8 fun K hK => ?_) | refine Y9 ?_ | (apply hK; clear hK K) | ((first | refine Yk (m := 0) (by decide +kernel) [] (by kernel_rfl) (by decide +kernel) ?_); simp only [List.replicate, XL]) | refine Ya ?_ | (refine Yb rfl ?_ ?_ <;> intro hcnd <;> (try simp at hcnd) <;> try exact dc) | refine Yc ?_ | (refine Yd ?_; simp only [X0, Nat.reduceBEq]) | (refine Ye ?_; refine Yf ?_) | refine Yg ?_ | (simp only [X0, Nat.reduceBEq]) | clear hK K)
  · refine awp_loopU (α := Nat) (fun i => (zS 2 (zN 2 (zS 11 (none :: some (V.int .i64 i) :: zS 15 []))))) (fun i => [.live [.sl a.length (a.map atsV)], .live [.sl b.length (b.map atsV)]]) (fun i => i ≤ b.length ∧ ∀ j (h : j < b.length), j < i → sameB (a[j]'(by omega)) b[j] = true) (fun i => b.length - i) 0 ⟨by omega, fun j _ h => by omega⟩ ?_ ?_
    · dsimp only [ups, zN, zS]
      exact Yr [some 0, some 1] (by simp [rowsOver])
    rintro i ⟨hi, hall⟩ KL hL
    dsimp only [ups, zN, zS]
    rcases Nat.lt_or_ge i b.length with hi | hi
    · have hia : i < a.length := by omega
      have hstep : sameB a[i] b[i] = true → i + 1 ≤ b.length ∧ ∀ j (h : j < b.length), j < i + 1 → sameB (a[j]'(by omega)) b[j] = true := fun hx => ⟨by omega, fun j hj h => by
        rcases Nat.lt_or_ge j i with h3 | h3
        · exact hall j hj h3
        · obtain rfl : j = i := by omega
          exact hx⟩
      have hf := zip_false hi h0'
      have hm := rsame_call a[i] b[i] (ha.2 _ (List.getElem_mem _)).1 (ha.2 _ (List.getElem_mem _)).2 (hb.2 _ (List.getElem_mem _)).1 (hb.2 _ (List.getElem_mem _)).2
      obtain ⟨x, hxx⟩ : ∃ x, a[i] = x := ⟨_, rfl⟩
      obtain ⟨y, hyy⟩ : ∃ x, b[i] = x := ⟨_, rfl⟩
      rw [hxx, hyy] at hstep hm hf
      cases h1 : sameB x y
      · rw [h1] at hm
        repeat' (first | ((first | refine Y0 rfl fun K9 h9 => ?_ | refine Y1 rfl rfl fun K9 h9 => ?_ | refine Y2 rfl rfl fun K9 h9 => ?_); simp (disch := first | exact dd | fail) [h0, hxx, hyy, h1]; (try simp (disch := first | exact de | fail) only [X7]); ((first | refine ⟨_, hm, ?_⟩ | skip) <;> ((repeat (refine Yz ?_)); (first | refine h9 _ _ (Ys ?_) | refine h9 _ _ (Yt ?_)); clear h9 K9))) | refine Y6 ?_ | refine Y7 ?_ | (refine Y8 fun K hK => ?_) | refine Y9 ?_ | (apply hK; clear hK K) | ((first | refine Yk (m := 0) (by decide +kernel) [0, 0, 0, 0, 1, 0, 0, 0, 0, 1, 1] (by kernel_rfl) (by decide +kernel) ?_ | refine Yk (m := 0) (by decide +kernel) [] (by kernel_rfl) (by decide +kernel) ?_); simp only [List.replicate, XL]) | refine Ya ?_ | (refine Yb rfl ?_ ?_ <;> intro hcnd <;> (try simp at hcnd) <;> try exact dc) | refine Yc ?_ | (refine Yd ?_; simp only [X0, Nat.reduceBEq]) | (refine Ye ?_; refine Yf ?_) | refine Yg ?_ | (simp only [X0, Nat.reduceBEq]) | clear hK K)
        rw [hf h1]
        exact .pure .bool
      · rw [h1] at hm
        repeat' (first | ((first | refine Y0 rfl fun K9 h9 => ?_ | refine Y1 rfl rfl fun K9 h9 => ?_ | refine Y2 rfl rfl fun K9 h9 => ?_); simp (disch := first | exact dd | fail) [h0, hxx, hyy, h1]; (try simp (disch := first | exact de | fail) only [X7]); ((first | refine ⟨_, hm, ?_⟩ | skip) <;> ((repeat (refine Yz ?_)); (first | refine h9 _ _ (Ys ?_) | refine h9 _ _ (Yt ?_)); clear h9 K9))) | refine Y6 ?_ | refine Y7 ?_ | (refine Y8 fun K hK => ?_) | refine Y9 ?_ | (apply hK; clear hK K) | ((first | refine Yk (m := 0) (by decide +kernel) [0, 0, 0, 0, 1, 0, 0, 0, 0, 1, 1] (by kernel_rfl) (by decide +kernel) ?_ | refine Yk (m := 0) (by decide +kernel) [] (by kernel_rfl) (by decide +kernel) ?_); simp only [List.replicate, XL]) | refine Ya ?_ | (refine Yb rfl ?_ ?_ <;> intro hcnd <;> (try simp at hcnd) <;> try exact dc) | refine Yc ?_ | (refine Yd ?_; simp only [X0, Nat.reduceBEq]) | (refine Ye ?_; refine Yf ?_) | refine Yg ?_ | (simp only [X0, Nat.reduceBEq]) | clear hK K)
        refine hL (i + 1) _ _ (hstep h1) (by omega) ?_
        exact Yr [some 0, some 1] (by simp [rowsOver])
    · repeat' (first | ((first | refine Y0 rfl fun K9 h9 => ?_ | refine Y1 rfl rfl fun K9 h9 => ?_ | refine Y2 rfl rfl fun K9 h9 => ?_); simp (disch := first | exact dd | fail) [h0]; (try simp (disch := first | exact de | fail) only [X7]); ((repeat (refine Yz ?_)); (first | refine h9 _ _ (Ys ?_) | refine h9 _ _ (Yt ?_)); clear h9 K9)) | refine Y6 ?_ | refine Y7 ?_ | (refine Y8 fun K hK => ?_) | refine Y9 ?_ | (apply hK; clear hK K) | ((first | refine Yk (m := 0) (by decide +kernel) [] (by kernel_rfl) (by decide +kernel) ?_); simp only [List.replicate, XL]) | refine Ya ?_ | (refine Yb rfl ?_ ?_ <;> intro hcnd <;> (try simp at hcnd) <;> try exact dc) | refine Yc ?_ | (refine Yd ?_; simp only [X0, Nat.reduceBEq]) | (refine Ye ?_; refine Yf ?_) | refine Yg ?_ | (simp only [X0, Nat.reduceBEq]) | clear hK K)
      rw [zip_true h0' fun j hj => hall j hj (by omega)]
      exact .pure .bool
  · exact .bool

theorem rmatch_call (a b : Nm) (ha : WN a) (hb : WN b) : PCall Tryz.prog 86 [.agg [nmV a], .agg [nmV b]] (.bool (nameB a b)) := by
  have hm := rwithin_call a b ha hb
  unfold nmV at *
  refine pcall_body Tryz.func86 rfl Tryz.call86 ?_ ?_
  rotate_left 1
  refine awp_slots (s' := (.agg [.sl a.length (a.map atsV)] : V) :: (.agg [.sl b.length (b.map atsV)] : V) :: zJ 15) rfl ?_; dsimp only [zJ]
  have hla := ha.1
  have hlb := hb.1
  by_cases h0 : (a.length : Int) = b.length
  · repeat' (first | ((first | refine Y0 rfl fun K9 h9 => ?_ | (refine Y3 ?_ ?_; (focus (simp [h0]; done)); intro K9 h9)); simp (disch := first | exact dd | fail) [h0]; (try simp (disch := first | exact de | fail) only [X7]); ((first | refine Ap hm ?_ | skip) <;> ((repeat (refine Yz ?_)); (first | refine h9 _ _ (Ys ?_)); clear h9 K9))) | refine Y6 ?_ | (refine Y8 fun K hK => ?_) | refine Y9 ?_ | (apply hK; clear hK K) | (refine Ye ?_; refine Yf ?_) | (refine Yh ?_ ?_; (focus (simp [h0]; done)); refine Ys ?_) | refine Yg ?_ | (simp only [X0, Nat.reduceBEq]) | clear hK K)
    rw [show nameB a b = withinB a b by simp [nameB]; omega]
    exact .pure .bool
  · repeat' (first | ((first | refine Y0 rfl fun K9 h9 => ?_ | (refine Y3 ?_ ?_; (focus (simp [h0]; done)); intro K9 h9)); simp (disch := first | exact dd | fail) [h0]; (try simp (disch := first | exact de | fail) only [X7]); ((first | refine Ap hm ?_ | skip) <;> ((repeat (refine Yz ?_)); (first | refine h9 _ _ (Ys ?_)); clear h9 K9))) | refine Y6 ?_ | (refine Y8 fun K hK => ?_) | refine Y9 ?_ | (apply hK; clear hK K) | (refine Ye ?_; refine Yf ?_) | (refine Yh ?_ ?_; (focus (simp [h0]; done)); refine Ys ?_) | refine Yg ?_ | (simp only [X0, Nat.reduceBEq]) | clear hK K)
    rw [show nameB a b = false by simp [nameB]; omega]
    exact .pure .bool
  exact .bool

end Go.Proofs.YtcfmanhblonjeaaGreatDoor

