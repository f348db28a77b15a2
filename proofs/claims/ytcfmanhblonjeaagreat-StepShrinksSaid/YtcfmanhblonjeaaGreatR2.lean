/-
  NAMES: what constraints permit, by the reference.
  Conditions: none.
-/
import Derived.Test.YtcfmanhblonjeaaGreatGe
import Derived.Test.YtcfmanhblonjeaaGreatGp
import Derived.Test.YtcfmanhblonjeaaGreatGq
import Derived.Test.YtcfmanhblonjeaaGreatGr
import Derived.Test.YtcfmanhblonjeaaGreatGj
import Derived.Test.YtcfmanhblonjeaaGreatQ6
import Derived.Test.YtcfmanhblonjeaaGreatQ7
import Derived.Test.YtcfmanhblonjeaaGreatR1
import Derived.Test.YtcfmanhblonjeaaGreatTab
import Derived.Test.YtcfmanhblonjeaaGreatGd
import Derived.Test.YtcfmanhblonjeaaGreatGi
import Derived.Test.YtcfmanhblonjeaaGreatVs30
import Derived.Test.YtcfmanhblonjeaaGreatVs31
namespace Go.Proofs.YtcfmanhblonjeaaGreat
open Go.VS Go.Stp
set_option linter.all false
set_option maxRecDepth 100000
set_option maxHeartbeats 4000000
attribute [local irreducible] arun arunD arunU AWp aend
theorem rperms_call (l : List Sb) (g : Gn) (hg : WE g) (h : WSs l) : PCall Tryz.prog 12 [.agg [sbsV l], .agg g.c] (.bool (permsB l g)) := by
  rw [show g.c = [.int .i64 g.kind, .str g.text, nmV g.name] from rfl]
  unfold sbsV
  refine pcall_body Tryz.func12 rfl Tryz.call12 ?_ ?_
  rotate_left 1
  refine awp_slots (s' := (.agg [.sl l.length (l.flatMap Sb.c)] : V) :: (.agg [.int .i64 g.kind, .str g.text, nmV g.name] : V) :: zJ 31) rfl ?_; dsimp only [zJ]
  have hll := sbs_len l
  have hcells := subs_at l
  have hl := h.1
  have hw := h.2
  generalize l.flatMap Sb.c = cells at *
  repeat' (first | ((first | refine Y0 rfl fun K9 h9 => ?_ | (refine Y3 ?_ ?_; (focus (simp; done)); intro K9 h9)); simp (disch := (first | (simp; done) | omega | (simp; omega))); (try simp (disch := (first | omega | (simp; omega))) only [X7]); ((repeat (refine Yz ?_)); (first | refine h9 _ _ (Ys ?_)); clear h9 K9)) | refine Y6 ?_ | (refine Y8 fun K hK => ?_) | refine Y9 ?_ | (apply hK; clear hK K) | refine Ya ?_ | (refine Yb rfl (fun hcnd => ?_) (fun hcnd => ?_) <;> (try simp at hcnd) <;> (try contradiction) <;> (try (exfalso; omega))) | refine Yc ?_ | (refine Yd ?_; simp only [X0, Nat.reduceBEq]) | (refine Ye ?_; refine Yf ?_) | (refine Yh ?_ ?_; (focus (simp; done)); refine Ys ?_) | refine Yg ?_ | (simp only [X0, Nat.reduceBEq]) | clear hK K)
  · refine awp_loopU (α := Nat) (fun i => (zS 3 (none :: some V.junk :: none :: zS 2 (zN 2 (some (V.int .i64 i) :: zS 22 []))))) (fun i => [.live [.sl l.length cells], .live [.int .i64 g.kind, .str g.text, nmV g.name]]) (fun i => i ≤ l.length ∧ ∀ j (h : j < l.length), j < i → permG g l[j] = true) (fun i => l.length - i) 0 ⟨by omega, fun j _ h => by omega⟩ ?_ ?_
    · dsimp only [ups, zN, zS]
      exact Yr [some 0, some 1] (by simp [rowsOver, rowRen_live, rens_pures])
    rintro i ⟨hi, hall⟩ KL hL
    dsimp only [ups, zN, zS]
    rcases Nat.lt_or_ge i l.length with hi | hi
    · have hstep : permG g l[i] = true → i + 1 ≤ l.length ∧ ∀ j (h : j < l.length), j < i + 1 → permG g l[j] = true := fun hx => ⟨by omega, fun j hj h => by
        rcases Nat.lt_or_ge j i with h3 | h3
        · exact hall j hj h3
        · obtain rfl : j = i := by omega
          exact hx⟩
      have hfalse : permG g l[i] = false → permsB l g = false := all_false' hi
      have hc := hcells i hi
      have hwx := hw _ (List.getElem_mem hi)
      generalize l[i] = x at *
      have e1 := rins_call g x.x hg hwx.2
      have e2 := rins_call g x.p hg hwx.1
      have e3 := rlim_call g.kind x.p hwx.1.1
      rw [show g.c = [.int .i64 g.kind, .str g.text, nmV g.name] from rfl] at e1 e2
      rw [show x.c = [gnsV x.p, gnsV x.x] from rfl] at hc
      unfold permG at hstep hfalse
      cases hx : inGs g x.x <;> rw [hx] at e1 hstep hfalse
      · cases hlm : limG g.kind x.p <;> rw [hlm] at e3 hstep hfalse
        · repeat' (first | ((first | refine Yl rfl fun K9 h9 => ?_ | (refine Ym ?_ ?_; (focus (simp [hc]; done)); intro K9 h9)); simp (disch := (first | (simp; done) | omega | (simp; omega))) [hc]; (try simp (disch := (first | omega | (simp; omega))) only [X7]); ((first | refine acall_pure (e1) (by simp) ?_ | refine acall_pure (e2) (by simp) ?_ | refine acall_pure (e3) (by simp) ?_ | skip) <;> ((repeat (refine Yz ?_)); (first | refine h9 _ _ (Yp ?_)); clear h9 K9))) | refine Yo ?_ | (refine Y8 fun K hK => ?_) | refine Yq ?_ | (apply hK; clear hK K) | refine Ya ?_ | (refine Yb rfl (fun hcnd => ?_) (fun hcnd => ?_) <;> (try simp at hcnd) <;> (try contradiction) <;> (try (exfalso; omega))) | refine Yc ?_ | (refine Yd ?_; simp only [X0, Nat.reduceBEq]) | (refine Ye ?_; refine Yf ?_) | (refine Yn ?_ ?_; (focus (simp [hc]; done)); refine Yp ?_) | refine Yg ?_ | (simp only [X0, Nat.reduceBEq]) | clear hK K)
          refine hL (i + 1) _ _ (hstep rfl) (by omega) ?_
          exact Yr [some 0, some 1] (by simp [rowsOver, rowRen_live, rens_pures])
        · cases hp : inGs g x.p <;> rw [hp] at e2 hstep hfalse
          · repeat' (first | ((first | refine Yl rfl fun K9 h9 => ?_ | (refine Ym ?_ ?_; (focus (simp [hc]; done)); intro K9 h9)); simp (disch := (first | (simp; done) | omega | (simp; omega))) [hc]; (try simp (disch := (first | omega | (simp; omega))) only [X7]); ((first | refine acall_pure (e1) (by simp) ?_ | refine acall_pure (e2) (by simp) ?_ | refine acall_pure (e3) (by simp) ?_ | skip) <;> ((repeat (refine Yz ?_)); (first | refine h9 _ _ (Yp ?_)); clear h9 K9))) | refine Yo ?_ | (refine Y8 fun K hK => ?_) | refine Yq ?_ | (apply hK; clear hK K) | refine Ya ?_ | (refine Yb rfl (fun hcnd => ?_) (fun hcnd => ?_) <;> (try simp at hcnd) <;> (try contradiction) <;> (try (exfalso; omega))) | refine Yc ?_ | (refine Yd ?_; simp only [X0, Nat.reduceBEq]) | (refine Ye ?_; refine Yf ?_) | (refine Yn ?_ ?_; (focus (simp [hc]; done)); refine Yp ?_) | refine Yg ?_ | (simp only [X0, Nat.reduceBEq]) | clear hK K)
            rw [hfalse rfl]
            exact .pure .bool
          · repeat' (first | ((first | refine Yl rfl fun K9 h9 => ?_ | (refine Ym ?_ ?_; (focus (simp [hc]; done)); intro K9 h9)); simp (disch := (first | (simp; done) | omega | (simp; omega))) [hc]; (try simp (disch := (first | omega | (simp; omega))) only [X7]); ((first | refine acall_pure (e1) (by simp) ?_ | refine acall_pure (e2) (by simp) ?_ | refine acall_pure (e3) (by simp) ?_ | skip) <;> ((repeat (refine Yz ?_)); (first | refine h9 _ _ (Yp ?_)); clear h9 K9))) | refine Yo ?_ | (refine Y8 fun K hK => ?_) | refine Yq ?_ | (apply hK; clear hK K) | refine Ya ?_ | (refine Yb rfl (fun hcnd => ?_) (fun hcnd => ?_) <;> (try simp at hcnd) <;> (try contradiction) <;> (try (exfalso; omega))) | refine Yc ?_ | (refine Yd ?_; simp only [X0, Nat.reduceBEq]) | (refine Ye ?_; refine Yf ?_) | (refine Yn ?_ ?_; (focus (simp [hc]; done)); refine Yp ?_) | refine Yg ?_ | (simp only [X0, Nat.reduceBEq]) | clear hK K)
            refine hL (i + 1) _ _ (hstep rfl) (by omega) ?_
            exact Yr [some 0, some 1] (by simp [rowsOver, rowRen_live, rens_pures])
      · repeat' (first | ((first | refine Yl rfl fun K9 h9 => ?_ | (refine Ym ?_ ?_; (focus (simp [hc]; done)); intro K9 h9)); simp (disch := (first | (simp; done) | omega | (simp; omega))) [hc]; (try simp (disch := (first | omega | (simp; omega))) only [X7]); ((first | refine acall_pure (e1) (by simp) ?_ | refine acall_pure (e2) (by simp) ?_ | refine acall_pure (e3) (by simp) ?_ | skip) <;> ((repeat (refine Yz ?_)); (first | refine h9 _ _ (Yp ?_)); clear h9 K9))) | refine Yo ?_ | (refine Y8 fun K hK => ?_) | refine Yq ?_ | (apply hK; clear hK K) | refine Ya ?_ | (refine Yb rfl (fun hcnd => ?_) (fun hcnd => ?_) <;> (try simp at hcnd) <;> (try contradiction) <;> (try (exfalso; omega))) | refine Yc ?_ | (refine Yd ?_; simp only [X0, Nat.reduceBEq]) | (refine Ye ?_; refine Yf ?_) | (refine Yn ?_ ?_; (focus (simp [hc]; done)); refine Yp ?_) | refine Yg ?_ | (simp only [X0, Nat.reduceBEq]) | clear hK K)
        rw [hfalse rfl]
        exact .pure .bool
    · repeat' (first | ((first | refine Y0 rfl fun K9 h9 => ?_ | (refine Y3 ?_ ?_; (focus (simp; done)); intro K9 h9)); simp (disch := (first | (simp; done) | omega | (simp; omega))); (try simp (disch := (first | omega | (simp; omega))) only [X7]); ((repeat (refine Yz ?_)); (first | refine h9 _ _ (Ys ?_)); clear h9 K9)) | refine Y6 ?_ | (refine Y8 fun K hK => ?_) | refine Y9 ?_ | (apply hK; clear hK K) | refine Ya ?_ | (refine Yb rfl (fun hcnd => ?_) (fun hcnd => ?_) <;> (try simp at hcnd) <;> (try contradiction) <;> (try (exfalso; omega))) | refine Yc ?_ | (refine Yd ?_; simp only [X0, Nat.reduceBEq]) | (refine Ye ?_; refine Yf ?_) | (refine Yh ?_ ?_; (focus (simp; done)); refine Ys ?_) | refine Yg ?_ | (simp only [X0, Nat.reduceBEq]) | clear hK K)
      rw [show permsB l g = true from all_true' fun j hj => hall j hj (by omega)]
      exact .pure .bool
  · exact .bool
end Go.Proofs.YtcfmanhblonjeaaGreat

