/-
  NAMES: general names of all kinds compared, by the reference.
  Conditions: none.
-/
import Derived.Test.YtcfmanhblonjeaaGreatGe
import Derived.Test.YtcfmanhblonjeaaGreatGf
import Derived.Test.YtcfmanhblonjeaaGreatGp
import Derived.Test.YtcfmanhblonjeaaGreatGq
import Derived.Test.YtcfmanhblonjeaaGreatGr
import Derived.Test.YtcfmanhblonjeaaGreatGg
import Derived.Test.YtcfmanhblonjeaaGreatGh
import Derived.Test.YtcfmanhblonjeaaGreatGj
import Derived.Test.YtcfmanhblonjeaaGreatQ6
import Derived.Test.YtcfmanhblonjeaaGreatQ7
import Derived.Test.YtcfmanhblonjeaaGreatTab
import Derived.Test.YtcfmanhblonjeaaGreatGd
import Derived.Test.YtcfmanhblonjeaaGreatGi
import Derived.Test.YtcfmanhblonjeaaGreatVs30
import Derived.Test.YtcfmanhblonjeaaGreatVs31
namespace Go.Proofs.YtcfmanhblonjeaaGreat
open Go.VS Go.Stp
set_option linter.all false
set_option maxRecDepth 100000
set_option maxHeartbeats 4000000
attribute [local irreducible] arun arunD arunU AWp aend
def inG (g b : Gn) : Bool :=
  if g.kind = b.kind then
    if g.kind = 1 then Ho.mwithinB g.text b.text
    else if g.kind = 2 then Ho.withinB g.text b.text
    else if g.kind = 4 then withinB g.name b.name
    else if g.kind = 7 then Ho.awithinB g.text b.text else false
  else false
def inGs (g : Gn) (l : List Gn) : Bool := l.any (inG g)
def limG (k : Int) (l : List Gn) : Bool := l.any fun b => decide (b.kind = k)
def permG (g : Gn) (s : Sb) : Bool := !inGs g s.x && !(limG g.kind s.p && !inGs g s.p)
def permsB (l : List Sb) (g : Gn) : Bool := l.all (permG g)
theorem all_true' {α : Type} {l : List α} {p : α → Bool} (h : ∀ j (hj : j < l.length), p l[j] = true) : l.all p = true := List.all_eq_true.2 fun x hx => by
  obtain ⟨j, hj, rfl⟩ := List.getElem_of_mem hx
  exact h j hj
theorem all_false' {α : Type} {l : List α} {p : α → Bool} {i : Nat} (hi : i < l.length) (h : p l[i] = false) : l.all p = false := by
  cases e : l.all p with
  | false => rfl
  | true => rw [List.all_eq_true.1 e _ (List.getElem_mem hi)] at h; cases h

theorem rin1_call (g b : Gn) (hg : WE g) (hb : WE b) : PCall Tryz.prog 55 [.agg g.c, .agg b.c] (.bool (inG g b)) := by
  have hn := rwithin_call g.name b.name hg.1 hb.1
  have ht := hg.2
  have ht2 := hb.2
  have h1 := Ho.rmwithin_call g.text b.text (by omega) (by omega)
  have h2 := Ho.rwithin_call g.text b.text (by omega) (by omega)
  have h7 := Ho.rawithin_call g.text b.text (by omega) (by omega)
  rw [show g.c = [.int .i64 g.kind, .str g.text, nmV g.name] from rfl, show b.c = [.int .i64 b.kind, .str b.text, nmV b.name] from rfl]
  refine pcall_body Tryz.func55 rfl Tryz.call55 ?_ ?_
  rotate_left 1
  refine awp_slots (s' := (.agg [.int .i64 g.kind, .str g.text, nmV g.name] : V) :: (.agg [.int .i64 b.kind, .str b.text, nmV b.name] : V) :: zJ 38) rfl ?_; dsimp only [zJ]
  unfold inG
  by_cases h0 : g.kind = b.kind
  · rw [if_pos h0]
    by_cases k1 : g.kind = 1
    · rw [if_pos k1]
      have k1' : b.kind = 1 := by omega
      repeat' (first | (refine Y0 rfl fun K9 h9 => ?_; simp (disch := (first | (simp; done) | omega | (simp; omega))) [k1, k1']; (try simp (disch := (first | omega | (simp; omega))) only [X7]); ((first | refine acall_pure (h1) (by simp) ?_ | skip) <;> ((repeat (refine Yz ?_)); (first | refine h9 _ _ (Ys ?_)); clear h9 K9))) | refine Y6 ?_ | (refine Y8 fun K hK => ?_) | refine Y9 ?_ | (apply hK; clear hK K) | refine Ya ?_ | (refine Yb rfl (fun hcnd => ?_) (fun hcnd => ?_) <;> (try simp at hcnd) <;> (try contradiction) <;> (try (exfalso; omega))) | refine Yc ?_ | (refine Ye ?_; refine Yf ?_) | refine Yg ?_ | (simp only [X0, Nat.reduceBEq]) | clear hK K)
      exact .pure .bool
    by_cases k2 : g.kind = 2
    · rw [if_neg k1, if_pos k2]
      have k1' : b.kind = 2 := by omega
      repeat' (first | (refine Y0 rfl fun K9 h9 => ?_; simp (disch := (first | (simp; done) | omega | (simp; omega))) [k2, k1']; (try simp (disch := (first | omega | (simp; omega))) only [X7]); ((first | refine acall_pure (h2) (by simp) ?_ | skip) <;> ((repeat (refine Yz ?_)); (first | refine h9 _ _ (Ys ?_)); clear h9 K9))) | refine Y6 ?_ | (refine Y8 fun K hK => ?_) | refine Y9 ?_ | (apply hK; clear hK K) | refine Ya ?_ | (refine Yb rfl (fun hcnd => ?_) (fun hcnd => ?_) <;> (try simp at hcnd) <;> (try contradiction) <;> (try (exfalso; omega))) | refine Yc ?_ | (refine Ye ?_; refine Yf ?_) | refine Yg ?_ | (simp only [X0, Nat.reduceBEq]) | clear hK K)
      exact .pure .bool
    by_cases k4 : g.kind = 4
    · rw [if_neg k1, if_neg k2, if_pos k4]
      have k1' : b.kind = 4 := by omega
      repeat' (first | (refine Y0 rfl fun K9 h9 => ?_; simp (disch := (first | (simp; done) | omega | (simp; omega))) [k4, k1']; (try simp (disch := (first | omega | (simp; omega))) only [X7]); ((first | refine acall_pure (hn) (by simp) ?_ | skip) <;> ((repeat (refine Yz ?_)); (first | refine h9 _ _ (Ys ?_)); clear h9 K9))) | refine Y6 ?_ | (refine Y8 fun K hK => ?_) | refine Y9 ?_ | (apply hK; clear hK K) | refine Ya ?_ | (refine Yb rfl (fun hcnd => ?_) (fun hcnd => ?_) <;> (try simp at hcnd) <;> (try contradiction) <;> (try (exfalso; omega))) | refine Yc ?_ | (refine Ye ?_; refine Yf ?_) | refine Yg ?_ | (simp only [X0, Nat.reduceBEq]) | clear hK K)
      exact .pure .bool
    by_cases k7 : g.kind = 7
    · rw [if_neg k1, if_neg k2, if_neg k4, if_pos k7]
      have k1' : b.kind = 7 := by omega
      repeat' (first | (refine Y0 rfl fun K9 h9 => ?_; simp (disch := (first | (simp; done) | omega | (simp; omega))) [k7, k1']; (try simp (disch := (first | omega | (simp; omega))) only [X7]); ((first | refine acall_pure (h7) (by simp) ?_ | skip) <;> ((repeat (refine Yz ?_)); (first | refine h9 _ _ (Ys ?_)); clear h9 K9))) | refine Y6 ?_ | (refine Y8 fun K hK => ?_) | refine Y9 ?_ | (apply hK; clear hK K) | refine Ya ?_ | (refine Yb rfl (fun hcnd => ?_) (fun hcnd => ?_) <;> (try simp at hcnd) <;> (try contradiction) <;> (try (exfalso; omega))) | refine Yc ?_ | (refine Ye ?_; refine Yf ?_) | refine Yg ?_ | (simp only [X0, Nat.reduceBEq]) | clear hK K)
      exact .pure .bool
    · rw [if_neg k1, if_neg k2, if_neg k4, if_neg k7]
      repeat' (first | (refine Y0 rfl fun K9 h9 => ?_; simp (disch := (first | (simp; done) | omega | (simp; omega))) [h0, k1, k2, k4, k7]; (try simp (disch := (first | omega | (simp; omega))) only [X7]); ((repeat (refine Yz ?_)); (first | refine h9 _ _ (Ys ?_)); clear h9 K9)) | refine Y6 ?_ | (refine Y8 fun K hK => ?_) | refine Y9 ?_ | (apply hK; clear hK K) | refine Ya ?_ | (refine Yb rfl (fun hcnd => ?_) (fun hcnd => ?_) <;> (try simp at hcnd) <;> (try contradiction) <;> (try (exfalso; omega))) | refine Yc ?_ | (refine Ye ?_; refine Yf ?_) | refine Yg ?_ | (simp only [X0, Nat.reduceBEq]) | clear hK K)
      exact .pure .bool
  · rw [if_neg h0]
    repeat' (first | (refine Y0 rfl fun K9 h9 => ?_; simp (disch := (first | (simp; done) | omega | (simp; omega))) [h0]; (try simp (disch := (first | omega | (simp; omega))) only [X7]); ((repeat (refine Yz ?_)); (first | refine h9 _ _ (Ys ?_)); clear h9 K9)) | refine Y6 ?_ | (refine Y8 fun K hK => ?_) | refine Y9 ?_ | (apply hK; clear hK K) | refine Ya ?_ | (refine Yb rfl (fun hcnd => ?_) (fun hcnd => ?_) <;> (try simp at hcnd) <;> (try contradiction) <;> (try (exfalso; omega))) | refine Yc ?_ | (refine Ye ?_; refine Yf ?_) | refine Yg ?_ | (simp only [X0, Nat.reduceBEq]) | clear hK K)
    exact .pure .bool
  exact .bool

theorem rins_call (g : Gn) (l : List Gn) (hg : WE g) (h : WG l) : PCall Tryz.prog 34 [.agg g.c, gnsV l] (.bool (inGs g l)) := by
  rw [show g.c = [.int .i64 g.kind, .str g.text, nmV g.name] from rfl]
  unfold gnsV
  refine pcall_body Tryz.func34 rfl Tryz.call34 ?_ ?_
  rotate_left 1
  refine awp_slots (s' := (.agg [.int .i64 g.kind, .str g.text, nmV g.name] : V) :: (.sl l.length (l.flatMap Gn.c) : V) :: zJ 15) rfl ?_; dsimp only [zJ]
  have hll := gns_len l
  have hcells := gens_at l
  have hl := h.1
  have hw := h.2
  generalize l.flatMap Gn.c = cells at *
  repeat' (first | (refine Y0 rfl fun K9 h9 => ?_; simp (disch := (first | (simp; done) | omega | (simp; omega))); (try simp (disch := (first | omega | (simp; omega))) only [X7]); ((repeat (refine Yz ?_)); (first | refine h9 _ _ (Ys ?_)); clear h9 K9)) | refine Y6 ?_ | (refine Y8 fun K hK => ?_) | refine Y9 ?_ | (apply hK; clear hK K) | refine Ya ?_ | (refine Yb rfl (fun hcnd => ?_) (fun hcnd => ?_) <;> (try simp at hcnd) <;> (try contradiction) <;> (try (exfalso; omega))) | refine Yc ?_ | (refine Yd ?_; simp only [X0, Nat.reduceBEq]) | (refine Ye ?_; refine Yf ?_) | refine Yg ?_ | (simp only [X0, Nat.reduceBEq]) | clear hK K)
  · refine awp_loopU (α := Nat) (fun i => (zS 2 (zN 2 (some V.junk :: none :: some V.junk :: zN 2 (some (V.int .i64 i) :: zS 7 []))))) (fun i => [.live [.int .i64 g.kind, .str g.text, nmV g.name]]) (fun i => i ≤ l.length ∧ ∀ j (h : j < l.length), j < i → inG g l[j] = false) (fun i => l.length - i) 0 ⟨by omega, fun j _ h => by omega⟩ ?_ ?_
    · dsimp only [ups, zN, zS]
      exact Yr [some 0] (by simp [rowsOver, rowRen_live, rens_pures])
    rintro i ⟨hi, hall⟩ KL hL
    dsimp only [ups, zN, zS]
    rcases Nat.lt_or_ge i l.length with hi | hi
    · have hstep : inG g l[i] = false → i + 1 ≤ l.length ∧ ∀ j (h : j < l.length), j < i + 1 → inG g l[j] = false := fun hx => ⟨by omega, fun j hj h => by
        rcases Nat.lt_or_ge j i with h3 | h3
        · exact hall j hj h3
        · obtain rfl : j = i := by omega
          exact hx⟩
      have htrue : inG g l[i] = true → inGs g l = true := any_true hi
      have hc := hcells i hi
      have he := rin1_call g l[i] hg (hw _ (List.getElem_mem _))
      generalize l[i] = x at *
      rw [show x.c = [.int .i64 x.kind, .str x.text, nmV x.name] from rfl] at hc he
      rw [show g.c = [.int .i64 g.kind, .str g.text, nmV g.name] from rfl] at he
      cases hb : inG g x <;> rw [hb] at he
      · repeat' (first | (refine Y0 rfl fun K9 h9 => ?_; simp (disch := (first | (simp; done) | omega | (simp; omega))) [hc]; (try simp (disch := (first | omega | (simp; omega))) only [X7]); ((first | refine acall_pure (he) (by simp) ?_ | skip) <;> ((repeat (refine Yz ?_)); (first | refine h9 _ _ (Ys ?_)); clear h9 K9))) | refine Y6 ?_ | (refine Y8 fun K hK => ?_) | refine Y9 ?_ | (apply hK; clear hK K) | refine Ya ?_ | (refine Yb rfl (fun hcnd => ?_) (fun hcnd => ?_) <;> (try simp at hcnd) <;> (try contradiction) <;> (try (exfalso; omega))) | refine Yc ?_ | (refine Yd ?_; simp only [X0, Nat.reduceBEq]) | (refine Ye ?_; refine Yf ?_) | refine Yg ?_ | (simp only [X0, Nat.reduceBEq]) | clear hK K)
        refine hL (i + 1) _ _ (hstep hb) (by omega) ?_
        exact Yr [some 0] (by simp [rowsOver, rowRen_live, rens_pures])
      · repeat' (first | (refine Y0 rfl fun K9 h9 => ?_; simp (disch := (first | (simp; done) | omega | (simp; omega))) [hc]; (try simp (disch := (first | omega | (simp; omega))) only [X7]); ((first | refine acall_pure (he) (by simp) ?_ | skip) <;> ((repeat (refine Yz ?_)); (first | refine h9 _ _ (Ys ?_)); clear h9 K9))) | refine Y6 ?_ | (refine Y8 fun K hK => ?_) | refine Y9 ?_ | (apply hK; clear hK K) | refine Ya ?_ | (refine Yb rfl (fun hcnd => ?_) (fun hcnd => ?_) <;> (try simp at hcnd) <;> (try contradiction) <;> (try (exfalso; omega))) | refine Yc ?_ | (refine Yd ?_; simp only [X0, Nat.reduceBEq]) | (refine Ye ?_; refine Yf ?_) | refine Yg ?_ | (simp only [X0, Nat.reduceBEq]) | clear hK K)
        rw [htrue hb]
        exact .pure .bool
    · repeat' (first | (refine Y0 rfl fun K9 h9 => ?_; simp (disch := (first | (simp; done) | omega | (simp; omega))); (try simp (disch := (first | omega | (simp; omega))) only [X7]); ((repeat (refine Yz ?_)); (first | refine h9 _ _ (Ys ?_)); clear h9 K9)) | refine Y6 ?_ | (refine Y8 fun K hK => ?_) | refine Y9 ?_ | (apply hK; clear hK K) | refine Ya ?_ | (refine Yb rfl (fun hcnd => ?_) (fun hcnd => ?_) <;> (try simp at hcnd) <;> (try contradiction) <;> (try (exfalso; omega))) | refine Yc ?_ | (refine Yd ?_; simp only [X0, Nat.reduceBEq]) | (refine Ye ?_; refine Yf ?_) | refine Yg ?_ | (simp only [X0, Nat.reduceBEq]) | clear hK K)
      rw [show inGs g l = false from any_false fun j hj => hall j hj (by omega)]
      exact .pure .bool
  · exact .bool

theorem rlim_call (k : Int) (l : List Gn) (h : l.length ≤ 65536) : PCall Tryz.prog 35 [gnsV l, .int .i64 k] (.bool (limG k l)) := by
  unfold gnsV
  refine pcall_body Tryz.func35 rfl Tryz.call35 ?_ ?_
  rotate_left 1
  refine awp_slots (s' := (.sl l.length (l.flatMap Gn.c) : V) :: (.int .i64 k : V) :: zJ 16) rfl ?_; dsimp only [zJ]
  have hll := gns_len l
  have hcells := gens_at l
  generalize l.flatMap Gn.c = cells at *
  repeat' (first | (refine Y0 rfl fun K9 h9 => ?_; simp (disch := (first | (simp; done) | omega | (simp; omega))); (try simp (disch := (first | omega | (simp; omega))) only [X7]); ((repeat (refine Yz ?_)); (first | refine h9 _ _ (Ys ?_)); clear h9 K9)) | refine Y6 ?_ | (refine Y8 fun K hK => ?_) | refine Y9 ?_ | (apply hK; clear hK K) | refine Ya ?_ | (refine Yb rfl (fun hcnd => ?_) (fun hcnd => ?_) <;> (try simp at hcnd) <;> (try contradiction) <;> (try (exfalso; omega))) | refine Yc ?_ | (refine Yd ?_; simp only [X0, Nat.reduceBEq]) | (refine Ye ?_; refine Yf ?_) | refine Yg ?_ | (simp only [X0, Nat.reduceBEq]) | clear hK K)
  · refine awp_loopU (α := Nat) (fun i => (some V.junk :: zN 3 (some V.junk :: none :: some V.junk :: zN 2 (some (V.int .i64 i) :: zS 8 [])))) (fun i => []) (fun i => i ≤ l.length ∧ ∀ j (h : j < l.length), j < i → decide (l[j].kind = k) = false) (fun i => l.length - i) 0 ⟨by omega, fun j _ h => by omega⟩ ?_ ?_
    · dsimp only [ups, zN, zS]
      exact Yr [] (by simp [rowsOver])
    rintro i ⟨hi, hall⟩ KL hL
    dsimp only [ups, zN, zS]
    rcases Nat.lt_or_ge i l.length with hi | hi
    · have hstep : decide (l[i].kind = k) = false → i + 1 ≤ l.length ∧ ∀ j (h : j < l.length), j < i + 1 → decide (l[j].kind = k) = false := fun hx => ⟨by omega, fun j hj h => by
        rcases Nat.lt_or_ge j i with h3 | h3
        · exact hall j hj h3
        · obtain rfl : j = i := by omega
          exact hx⟩
      have htrue : decide (l[i].kind = k) = true → limG k l = true := any_true (p := fun b : Gn => decide (b.kind = k)) hi
      have hc := hcells i hi
      generalize l[i] = x at *
      rw [show x.c = [.int .i64 x.kind, .str x.text, nmV x.name] from rfl] at hc
      by_cases hb : x.kind = k
      · repeat' (first | (refine Y0 rfl fun K9 h9 => ?_; simp (disch := (first | (simp; done) | omega | (simp; omega))) [hc, hb]; (try simp (disch := (first | omega | (simp; omega))) only [X7]); ((repeat (refine Yz ?_)); (first | refine h9 _ _ (Ys ?_)); clear h9 K9)) | refine Y6 ?_ | (refine Y8 fun K hK => ?_) | refine Y9 ?_ | (apply hK; clear hK K) | refine Ya ?_ | (refine Yb rfl (fun hcnd => ?_) (fun hcnd => ?_) <;> (try simp at hcnd) <;> (try contradiction) <;> (try (exfalso; omega))) | refine Yc ?_ | (refine Yd ?_; simp only [X0, Nat.reduceBEq]) | (refine Ye ?_; refine Yf ?_) | refine Yg ?_ | (simp only [X0, Nat.reduceBEq]) | clear hK K)
        rw [htrue (by simpa using hb)]
        exact .pure .bool
      · repeat' (first | (refine Y0 rfl fun K9 h9 => ?_; simp (disch := (first | (simp; done) | omega | (simp; omega))) [hc, hb]; (try simp (disch := (first | omega | (simp; omega))) only [X7]); ((repeat (refine Yz ?_)); (first | refine h9 _ _ (Ys ?_)); clear h9 K9)) | refine Y6 ?_ | (refine Y8 fun K hK => ?_) | refine Y9 ?_ | (apply hK; clear hK K) | refine Ya ?_ | (refine Yb rfl (fun hcnd => ?_) (fun hcnd => ?_) <;> (try simp at hcnd) <;> (try contradiction) <;> (try (exfalso; omega))) | refine Yc ?_ | (refine Yd ?_; simp only [X0, Nat.reduceBEq]) | (refine Ye ?_; refine Yf ?_) | refine Yg ?_ | (simp only [X0, Nat.reduceBEq]) | clear hK K)
        refine hL (i + 1) _ _ (hstep (by simpa using hb)) (by omega) ?_
        exact Yr [] (by simp [rowsOver])
    · repeat' (first | (refine Y0 rfl fun K9 h9 => ?_; simp (disch := (first | (simp; done) | omega | (simp; omega))); (try simp (disch := (first | omega | (simp; omega))) only [X7]); ((repeat (refine Yz ?_)); (first | refine h9 _ _ (Ys ?_)); clear h9 K9)) | refine Y6 ?_ | (refine Y8 fun K hK => ?_) | refine Y9 ?_ | (apply hK; clear hK K) | refine Ya ?_ | (refine Yb rfl (fun hcnd => ?_) (fun hcnd => ?_) <;> (try simp at hcnd) <;> (try contradiction) <;> (try (exfalso; omega))) | refine Yc ?_ | (refine Yd ?_; simp only [X0, Nat.reduceBEq]) | (refine Ye ?_; refine Yf ?_) | refine Yg ?_ | (simp only [X0, Nat.reduceBEq]) | clear hK K)
      rw [show limG k l = false from any_false (p := fun b : Gn => decide (b.kind = k)) fun j hj => hall j hj (by omega)]
      exact .pure .bool
  · exact .bool
end Go.Proofs.YtcfmanhblonjeaaGreat

