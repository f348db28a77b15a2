/-
  SCOPE: what a list covers (the program).
  Conditions: none.
-/
import Derived.Test.YtcfmanhblonjeaaGreatDoorGe
import Derived.Test.YtcfmanhblonjeaaGreatDoorGf
import Derived.Test.YtcfmanhblonjeaaGreatDoorGg
import Derived.Test.YtcfmanhblonjeaaGreatDoorGh
import Derived.Test.YtcfmanhblonjeaaGreatDoorP1
import Derived.Test.YtcfmanhblonjeaaGreatDoorP2
import Derived.Test.YtcfmanhblonjeaaGreatDoorGj
import Derived.Test.YtcfmanhblonjeaaGreatDoorGl
import Derived.Test.YtcfmanhblonjeaaGreatDoorQ6
import Derived.Test.YtcfmanhblonjeaaGreatDoorQ7
import Derived.Test.YtcfmanhblonjeaaGreatDoorQ16
import Derived.Test.YtcfmanhblonjeaaGreatDoorQ17
import Derived.Test.YtcfmanhblonjeaaGreatDoorQ18
import Derived.Test.YtcfmanhblonjeaaGreatDoorQ19
import Derived.Test.YtcfmanhblonjeaaGreatDoorQ25
import Derived.Test.YtcfmanhblonjeaaGreatDoorQ26
import Derived.Test.YtcfmanhblonjeaaGreatDoorQ27
import Derived.Test.YtcfmanhblonjeaaGreatDoorTab
import Derived.Test.YtcfmanhblonjeaaGreatDoorGd
import Derived.Test.YtcfmanhblonjeaaGreatDoorGi
import Derived.Test.YtcfmanhblonjeaaGreatDoorVs33
import Derived.Test.YtcfmanhblonjeaaGreatDoorVs34
import Derived.Test.YtcfmanhblonjeaaGreatDoorVs35
set_option linter.all false
namespace Go.Stp
open Go.VS
theorem view_fn {rows : List Row} {f : Fn} {c d : List V} (h : Views rows c d) : View rows (.fn f c) (.fn f d) := .fn h.get.1 h.get.2
end Go.Stp
namespace Go.Proofs.YtcfmanhblonjeaaGreatDoor
open Go.VS Go.Stp
set_option linter.all false
set_option maxRecDepth 100000
set_option maxHeartbeats 8000000
attribute [local irreducible] arun arunD arunU AWp aend bits
theorem gindex_call (l : List Gn) (f : FuncId) (cs : List V) (B : Gn → Bool) (hl : l.length ≤ 65536) (hc : ∀ x ∈ l, PCall Tryz.prog f [.agg x.c, .rptr cs] (.bool (B x))) : PCall Tryz.prog 54 [gnsV l, .fn (.func f) [.rptr cs]] (.int .i64 (findI B l)) := by
  unfold gnsV
  have hll : (l.flatMap Gn.c).length = l.length * 3 := gns_len l
  have hcells := gens_at l
  refine pcall_body Tryz.func54 rfl Tryz.call54 ?_ ?_
  rotate_left 1
  refine awp_slots (s' := (.sl l.length (l.flatMap Gn.c) : V) :: (.fn (.func f) [.rptr cs] : V) :: zJ 17) rfl ?_; dsimp only [zJ]
  generalize l.flatMap Gn.c = cells at *
  repeat' (first | (refine Y0 rfl fun K9 h9 => ?_; simp (disch := first | exact dd | fail); (try simp (disch := first | exact de | fail) only [X7]); ((repeat (refine Yz ?_)); (first | refine h9 _ _ (Ys ?_)); clear h9 K9)) | refine Y6 ?_ | (refine Y8 fun K hK => ?_) | refine Y9 ?_ | (apply hK; clear hK K) | refine Ya ?_ | (refine Yb rfl ?_ ?_ <;> intro hcnd <;> (try simp at hcnd) <;> try exact dc) | refine Yc ?_ | (refine Yd ?_; simp only [X0, Nat.reduceBEq]) | (refine Ye ?_; refine Yf ?_) | refine Yg ?_ | (simp only [X0, Nat.reduceBEq]) | clear hK K)
  · refine awp_loopU (α := Nat) (fun i => (zN 4 (zS 3 (none :: some (V.int .i64 i) :: zS 10 [])))) (fun i => []) (fun i => i ≤ l.length ∧ ∀ j (h : j < l.length), j < i → B l[j] = false) (fun i => l.length - i) 0 ⟨by omega, fun j _ h => by omega⟩ ?_ ?_
    · dsimp only [ups, zN, zS]
      exact Yr [] (by simp [rowsOver])
    rintro i ⟨hi, hall⟩ KL hL
    dsimp only [ups, zN, zS]
    rcases Nat.lt_or_ge i l.length with hi | hi
    · have hstep : B l[i] = false → i + 1 ≤ l.length ∧ ∀ j (h : j < l.length), j < i + 1 → B l[j] = false := fun hx => ⟨by omega, fun j hj h => by
        rcases Nat.lt_or_ge j i with h3 | h3
        · exact hall j hj h3
        · obtain rfl : j = i := by omega
          exact hx⟩
      have hfound : B l[i] = true → findI B l = i := fun h => findI_some hi h hall
      have hg := hcells i hi
      have hc := hc l[i] (List.getElem_mem hi)
      obtain ⟨x, hxx⟩ : ∃ x, l[i] = x := ⟨_, rfl⟩
      rw [hxx] at hstep hfound hg hc
      rw [show x.c = [.int .i64 x.kind, .str x.text, nmV x.name] from rfl] at hg hc
      cases h1 : B x
      · rw [h1] at hc
        repeat' (first | (refine Y0 rfl fun K9 h9 => ?_; simp (disch := first | exact dd | fail) [hg]; (try simp (disch := first | exact de | fail) only [X7]); ((first | refine Ap hc ?_ | skip) <;> ((repeat (refine Yz ?_)); (first | refine h9 _ _ (Ys ?_)); clear h9 K9))) | refine Y6 ?_ | (refine Y8 fun K hK => ?_) | refine Y9 ?_ | (apply hK; clear hK K) | refine Ya ?_ | (refine Yb rfl ?_ ?_ <;> intro hcnd <;> (try simp at hcnd) <;> try exact dc) | refine Yc ?_ | (refine Yd ?_; simp only [X0, Nat.reduceBEq]) | (refine Ye ?_; refine Yf ?_) | refine Yg ?_ | (simp only [X0, Nat.reduceBEq]) | clear hK K)
        refine hL (i + 1) _ _ (hstep h1) (by omega) ?_
        exact Yr [] (by simp [rowsOver])
      · rw [h1] at hc
        repeat' (first | (refine Y0 rfl fun K9 h9 => ?_; simp (disch := first | exact dd | fail) [hg]; (try simp (disch := first | exact de | fail) only [X7]); ((first | refine Ap hc ?_ | skip) <;> ((repeat (refine Yz ?_)); (first | refine h9 _ _ (Ys ?_)); clear h9 K9))) | refine Y6 ?_ | (refine Y8 fun K hK => ?_) | refine Y9 ?_ | (apply hK; clear hK K) | refine Ya ?_ | (refine Yb rfl ?_ ?_ <;> intro hcnd <;> (try simp at hcnd) <;> try exact dc) | refine Yc ?_ | (refine Yd ?_; simp only [X0, Nat.reduceBEq]) | (refine Ye ?_; refine Yf ?_) | refine Yg ?_ | (simp only [X0, Nat.reduceBEq]) | clear hK K)
        rw [hfound h1]
        exact .pure .int
    · repeat' (first | (refine Y0 rfl fun K9 h9 => ?_; simp (disch := first | exact dd | fail); (try simp (disch := first | exact de | fail) only [X7]); ((repeat (refine Yz ?_)); (first | refine h9 _ _ (Ys ?_)); clear h9 K9)) | refine Y6 ?_ | (refine Y8 fun K hK => ?_) | refine Y9 ?_ | (apply hK; clear hK K) | refine Ya ?_ | (refine Yb rfl ?_ ?_ <;> intro hcnd <;> (try simp at hcnd) <;> try exact dc) | refine Yc ?_ | (refine Yd ?_; simp only [X0, Nat.reduceBEq]) | (refine Ye ?_; refine Yf ?_) | refine Yg ?_ | (simp only [X0, Nat.reduceBEq]) | clear hK K)
      rw [findI_none fun j hj => hall j hj (by omega)]
      exact .pure .int
  · exact .int

theorem gcontains_call (l : List Gn) (f : FuncId) (cs : List V) (B : Gn → Bool) (hl : l.length ≤ 65536) (hc : ∀ x ∈ l, PCall Tryz.prog f [.agg x.c, .rptr cs] (.bool (B x))) : PCall Tryz.prog 35 [gnsV l, .fn (.func f) [.rptr cs]] (.bool (l.any B)) := by
  have hi := gindex_call l f cs B hl hc
  have hg := findI_ge B l
  rw [← hg]
  unfold gnsV at *
  generalize findI B l = r at *
  refine pcall_body Tryz.func35 rfl Tryz.call35 ?_ ?_
  rotate_left 1
  refine awp_slots (s' := (.sl l.length (l.flatMap Gn.c) : V) :: (.fn (.func f) [.rptr cs] : V) :: zJ 7) rfl ?_; dsimp only [zJ]
  repeat' (first | (refine Y0 rfl fun K9 h9 => ?_; simp (disch := first | exact dd | fail); (try simp (disch := first | exact de | fail) only [X7]); ((first | refine Ap hi ?_ | skip) <;> ((repeat (refine Yz ?_)); (first | refine h9 _ _ (Ys ?_)); clear h9 K9))) | refine Y6 ?_ | (refine Y8 fun K hK => ?_) | refine Y9 ?_ | (apply hK; clear hK K) | (refine Ye ?_; refine Yf ?_) | refine Yg ?_ | (simp only [X0, Nat.reduceBEq]) | clear hK K)
  · exact .pure .bool
  · exact .bool

end Go.Proofs.YtcfmanhblonjeaaGreatDoor

