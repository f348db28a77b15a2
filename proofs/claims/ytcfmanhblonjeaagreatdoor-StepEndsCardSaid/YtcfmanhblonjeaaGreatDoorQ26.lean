/-
  STEP: mappings, strings each once, points from a deck.
  Conditions: none.
-/
import Derived.Test.YtcfmanhblonjeaaGreatDoorGe
import Derived.Test.YtcfmanhblonjeaaGreatDoorGf
import Derived.Test.YtcfmanhblonjeaaGreatDoorGg
import Derived.Test.YtcfmanhblonjeaaGreatDoorGh
import Derived.Test.YtcfmanhblonjeaaGreatDoorGj
import Derived.Test.YtcfmanhblonjeaaGreatDoorGl
import Derived.Test.YtcfmanhblonjeaaGreatDoorQ16
import Derived.Test.YtcfmanhblonjeaaGreatDoorQ17
import Derived.Test.YtcfmanhblonjeaaGreatDoorQ18
import Derived.Test.YtcfmanhblonjeaaGreatDoorQ19
import Derived.Test.YtcfmanhblonjeaaGreatDoorQ25
import Derived.Test.YtcfmanhblonjeaaGreatDoorTab
import Derived.Test.YtcfmanhblonjeaaGreatDoorGd
import Derived.Test.YtcfmanhblonjeaaGreatDoorGi
import Derived.Test.YtcfmanhblonjeaaGreatDoorVs33
import Derived.Test.YtcfmanhblonjeaaGreatDoorVs34
import Derived.Test.YtcfmanhblonjeaaGreatDoorVs35
set_option linter.all false
namespace Go.Stp
open Go.VS
@[simp] theorem mps_pures (l : List Mp) : Pures (l.flatMap Mp.c) := flat_pures (fun m => by simp [Mp.c]) l
theorem mpc_len (m : Mp) : m.c.length = 2 := rfl
theorem mps_len (l : List Mp) : (l.flatMap Mp.c).length = l.length * 2 := flat_len mpc_len l
theorem mps_one (l : List Mp) : ∀ x ∈ l.flatMap Mp.c, x.one = true := flat_one (fun m => by simp [Mp.c, V.one]) l
theorem mps_put (l : List Mp) (a b : List UInt8) : (l ++ [(⟨a, b⟩ : Mp)]).flatMap Mp.c = l.flatMap Mp.c ++ [.str a, .str b] := by simp [Mp.c]
end Go.Stp
namespace Go.Proofs.YtcfmanhblonjeaaGreatDoor
open Go.VS Go.Stp
set_option linter.all false
set_option maxRecDepth 100000
set_option maxHeartbeats 8000000
attribute [local irreducible] arun arunD arunU AWp aend
theorem mappings_dc {l : List Int} (h : DkOk l) : DC Tryz.prog 48 [.int .i64 3] l (mapsQ 4) := by
  intro a ha
  have n4 : DC Tryz.prog 7 [.int .i64 4] l (IntQ 4) := next_dc h 4 (by omega) (by omega)
  have n12 : DC Tryz.prog 7 [.int .i64 12] l (IntQ 12) := next_dc h 12 (by omega) (by omega)
  have pol0 : PCall Tryz.prog 50 [.int .i64 0] (.str (polS 0)) := policy_call 0 (by omega) (by omega)
  refine eg_body Tryz.func48 rfl Tryz.call48 ?_
  refine awp_slots (s' := (.ref 0 0 : V) :: (.int .i64 3 : V) :: zJ 32) rfl ?_; dsimp only [zJ]
  refine awp_rows (rows' := [.live (dk l a)]) rfl ?_
  iterate 10 (first | (refine Y0 rfl fun K9 h9 => ?_; simp (disch := first | exact dd | fail); (try simp (disch := first | exact de | fail) only [X7]); ((repeat (refine Yz ?_)); (first | refine h9 _ _ (Ys ?_)); clear h9 K9)) | refine Y6 ?_ | (refine Y8 fun K hK => ?_) | refine Y9 ?_ | (apply hK; clear hK K) | refine Ya ?_ | (refine Yb rfl ?_ ?_ <;> intro hcnd <;> (try simp at hcnd) <;> try exact dc) | refine Yc ?_ | (refine Yd ?_; simp only [X0, Nat.reduceBEq]) | (refine Ye ?_; refine Yf ?_) | refine Yg ?_ | (simp only [X0, Nat.reduceBEq]) | (clear hK K; first | (apply hK; clear hK K) | (clear hK K; first | (apply hK; clear hK K) | (clear hK K; first | (apply hK; clear hK K) | (clear hK K; apply hK; clear hK K)))))
  refine awp_seq' fun K1 hK1 hL1 => ?_
  have main1 : ∀ (ms : List Mp) (b : Nat), ms.length ≤ 3 → b ≤ l.length → K1 ([.ref 0 0, .junk, .junk, .junk, .junk, .osl 1 0 ms.length 2, .junk, .junk, .junk, .junk, .junk, .junk, .junk, .junk, .junk, .junk, .junk, .junk, .junk, .junk, .junk, .junk, .junk, .junk, .junk, .junk, .junk, .junk, .junk, .junk, .junk, .junk, .junk, .junk]) [.live (dk l b), .live (ms.flatMap Mp.c)] := by
    intro ms b hm hb
    refine hK1 _ _ ?_
    clear hK1 hL1
    clear K1
    refine awp_seq' fun K2 hK2 hL2 => ?_
    have main2 : ∀ (ms : List Mp) (b : Nat), ms.length ≤ 4 → b ≤ l.length → K2 ([.ref 0 0, .junk, .junk, .junk, .junk, .osl 1 0 ms.length 2, .junk, .junk, .junk, .junk, .junk, .junk, .junk, .junk, .junk, .junk, .junk, .junk, .junk, .junk, .junk, .junk, .junk, .junk, .junk, .junk, .junk, .junk, .junk, .junk, .junk, .junk, .junk, .junk]) [.live (dk l b), .live (ms.flatMap Mp.c)] := by
      intro ms b hm hb
      refine hK2 _ _ ?_
      clear hK2 hL2
      clear K2
      have hmV : mpsV ms = .sl ms.length (ms.flatMap Mp.c) := rfl
      have hml := mps_len ms
      have hmp := mps_pures ms
      have hmQ : mapsQ 4 (mpsV ms) := ⟨ms, hm, rfl⟩
      have hmu := mpsV_pure ms
      rw [hmV] at hmQ hmu
      generalize ms.flatMap Mp.c = cells at *
      have e : List.take (ms.length * 2) cells = cells := List.take_of_length_le (by omega)
      refine awp_freeze' 1 rfl hmp (by simp [fz, hml, e]; rfl) (by simp [fzRow, fz, fz_map (dk_pures _ _)]; rfl) ?_
      repeat' (first | (refine Y0 rfl fun K9 h9 => ?_; simp (disch := first | exact dd | fail); (try simp (disch := first | exact de | fail) only [X7]); ((repeat (refine Yz ?_)); (first | refine h9 _ _ (Ys ?_)); clear h9 K9)) | refine Y6 ?_ | (refine Y8 fun K hK => ?_) | refine Y9 ?_ | (apply hK; clear hK K) | refine Ya ?_ | (refine Yb rfl ?_ ?_ <;> intro hcnd <;> (try simp at hcnd) <;> try exact dc) | refine Yc ?_ | (refine Yd ?_; simp only [X0, Nat.reduceBEq]) | (refine Ye ?_; refine Yf ?_) | refine Yg ?_ | (simp only [X0, Nat.reduceBEq]) | clear hK K)
      refine ⟨.sl ms.length cells, [dk l b], ⟨b, hb, hmQ, rfl⟩, by simp, rfl, by simp, ?_⟩
      exact Le.mk [some 0] (by simp [sget]) (rowsRen_of (by simp) (by simp [rowsOver, rowRen_live, rens_pures])) (by simp)
    clear hK2
    have hml := mps_len ms
    have hmp := mps_pures ms
    have hmo := mps_one ms
    have hput := mps_put ms
    have hms := main2 ms
    have hms2 := fun a b => main2 (ms ++ [⟨a, b⟩])
    simp only [hput, List.length_append, List.length_singleton] at hms2
    clear main2
    generalize ms.flatMap Mp.c = cells at *
    have e : List.take (ms.length * 2) cells = cells := List.take_of_length_le (by omega)
    repeat' (first | (refine Y0 rfl fun K9 h9 => ?_; simp (disch := first | exact dd | fail) [hml, e]; (try simp (disch := first | exact de | fail) only [X7]); ((first | (refine acall_dc n12 rfl (by assumption) (by simp) (fun r a' ha' hQ hr => ?_); obtain ⟨x, hx1, hx2, rfl⟩ := hQ; clear hr) | refine Ap pol0 ?_ | skip) <;> ((repeat (refine Yz ?_)); (first | refine h9 _ _ (Ys ?_)); clear h9 K9))) | refine Y6 ?_ | (refine Y8 fun K hK => ?_) | refine Y9 ?_ | (apply hK; clear hK K) | refine Ya ?_ | (refine Yb rfl ?_ ?_ <;> intro hcnd <;> (try simp at hcnd) <;> try exact dc) | refine Yc ?_ | (refine Yd ?_; simp only [X0, Nat.reduceBEq]) | (refine Ye ?_; refine Yf ?_) | refine Yg ?_ | (simp only [X0, Nat.reduceBEq]) | clear hK K)
    · have hms2 := hms2 [50, 46, 53, 46, 50, 57, 46, 51, 50, 46, 48] (polS 0) a' (by omega) ha'
      have hp3 : Pures (cells ++ [V.str [50, 46, 53, 46, 50, 57, 46, 51, 50, 46, 48], V.str (polS 0)]) := by simp [hmp]
      refine hL2 _ _ _ _ ?_ hms2
      exact Yr [some 0, some 3] (by simp [rowsOver, rowRen_live, rens_pures, rens_pures hp3])
    · refine hL2 _ _ _ _ ?_ (hms a' (by omega) ha')
      exact Yr [some 0, some 1] (by simp [rowsOver, rowRen_live, rens_pures, rens_pures hmp])
  clear hK1
  repeat' (first | (refine Y0 rfl fun K9 h9 => ?_; simp (disch := first | exact dd | fail); (try simp (disch := first | exact de | fail) only [X7]); ((first | (refine acall_dc n4 rfl (by assumption) (by simp) (fun r a' ha' hQ hr => ?_); obtain ⟨x, hx1, hx2, rfl⟩ := hQ; clear hr) | skip) <;> ((repeat (refine Yz ?_)); (first | refine h9 _ _ (Ys ?_)); clear h9 K9))) | refine Y6 ?_ | (refine Y8 fun K hK => ?_) | refine Y9 ?_ | (apply hK; clear hK K) | refine Ya ?_ | (refine Yb rfl ?_ ?_ <;> intro hcnd <;> (try simp at hcnd) <;> try exact dc) | refine Yc ?_ | (refine Yd ?_; simp only [X0, Nat.reduceBEq]) | (refine Ye ?_; refine Yf ?_) | refine Yg ?_ | (simp only [X0, Nat.reduceBEq]) | clear hK K)
  obtain ⟨m, rfl⟩ : ∃ m, m = x := ⟨_, rfl⟩
  refine awp_loopU (α := Nat × List Mp × Nat) (fun q => (none :: some V.junk :: zN 2 (some V.junk :: some (V.osl 1 0 q.2.1.length 2) :: some (V.int .i64 (m - q.1)) :: zS 27 []))) (fun q => [.live (dk l q.2.2), .live (q.2.1.flatMap Mp.c)]) (fun q => (q.1 : Int) ≤ m ∧ q.2.1.length ≤ q.1 ∧ q.2.2 ≤ l.length) (fun q => 4 - q.1) (0, [], a') ⟨by omega, by simp, ha'⟩ ?_ ?_
  · dsimp only [ups, zN, zS]
    exact Yr [some 0, none] (by simp [rowsOver, rowRen_live, rens_pures])
  rintro ⟨i, ms, b⟩ ⟨hi, hpl, hb⟩ KL hL
  dsimp only at hi hpl hb
  dsimp only [ups, zN, zS]
  rcases (show (i : Int) < m ∨ i = m by omega) with hi | hi
  · have hml := mps_len ms
    have hmp := mps_pures ms
    have hput := mps_put ms
    have hL' := fun a b c => hL (i + 1, ms ++ [⟨a, b⟩], c)
    dsimp only at hL'
    simp only [hput, List.length_append, List.length_singleton] at hL'
    clear hL main1 hL1
    generalize ms.flatMap Mp.c = cells at *
    have e : List.take (ms.length * 2) cells = cells := List.take_of_length_le (by omega)
    repeat' (first | (refine Y0 rfl fun K9 h9 => ?_; simp (disch := first | exact dd | fail) [hml, e]; (try simp (disch := first | exact de | fail) only [X7]); ((first | (refine acall_dc n4 rfl (by assumption) (by simp) (fun r a' ha' hQ hr => ?_); obtain ⟨x, hx1, hx2, rfl⟩ := hQ; clear hr) | refine Ap (policy_call _ (by omega) (by omega)) ?_ | skip) <;> ((repeat (refine Yz ?_)); (first | refine h9 _ _ (Ys ?_)); clear h9 K9))) | refine Y6 ?_ | (refine Y8 fun K hK => ?_) | refine Y9 ?_ | (apply hK; clear hK K) | refine Ya ?_ | (refine Yb rfl ?_ ?_ <;> intro hcnd <;> (try simp at hcnd) <;> try exact dc) | refine Yc ?_ | (refine Yd ?_; simp only [X0, Nat.reduceBEq]) | (refine Ye ?_; refine Yf ?_) | refine Yg ?_ | (simp only [X0, Nat.reduceBEq]) | clear hK K)
    rename_i a1 ha1 x1 hx11 hx12
    have hp3 : Pures (cells ++ [V.str (polS x1), V.str (polS x)]) := by simp [hmp]
    refine hL' (polS x1) (polS x) a' _ _ ⟨by omega, by omega, ha'⟩ (by omega) ?_
    exact Yr [some 0, some 3] (by simp [rowsOver, rowRen_live, rens_pures, rens_pures hp3])
  · clear n4 n12
    repeat' (first | (refine Y0 rfl fun K9 h9 => ?_; simp (disch := first | exact dd | fail); (try simp (disch := first | exact de | fail) only [X7]); ((repeat (refine Yz ?_)); (first | refine h9 _ _ (Ys ?_)); clear h9 K9)) | refine Y6 ?_ | (refine Y8 fun K hK => ?_) | refine Y9 ?_ | (apply hK; clear hK K) | refine Ya ?_ | (refine Yb rfl ?_ ?_ <;> intro hcnd <;> (try simp at hcnd) <;> try exact dc) | refine Yc ?_ | (refine Yd ?_; simp only [X0, Nat.reduceBEq]) | (refine Ye ?_; refine Yf ?_) | refine Yg ?_ | (simp only [X0, Nat.reduceBEq]) | clear hK K)
    refine hL1 _ _ _ _ ?_ (main1 ms b (by omega) hb)
    exact Yr [some 0, some 1] (by simp [rowsOver, rowRen_live, rens_pures])

theorem once_call (l : List (List UInt8)) (hl : l.length ≤ 100) (hs : ∀ p ∈ l, p.length ≤ 20) : EG Tryz.prog 27 [strV l] [] fun r _ => strsQ l.length r := by
  unfold strV
  refine eg_body Tryz.func27 rfl Tryz.call27 ?_
  refine awp_slots (s' := (.sl l.length (l.map V.str) : V) :: zJ 35) rfl ?_; dsimp only [zJ]
  refine awp_rows (rows' := []) rfl ?_
  iterate 10 (first | ((first | refine Y0 rfl fun K9 h9 => ?_ | (refine Y3 ?_ ?_; (focus (simp; done)); intro K9 h9)); simp (disch := first | exact dd | fail); (try simp (disch := first | exact de | fail) only [X7]); ((repeat (refine Yz ?_)); (first | refine h9 _ _ (Ys ?_)); clear h9 K9)) | refine Y6 ?_ | (refine Y8 fun K hK => ?_) | refine Y9 ?_ | (apply hK; clear hK K) | refine Ya ?_ | (refine Yb rfl ?_ ?_ <;> intro hcnd <;> (try simp at hcnd) <;> try exact dc) | refine Yc ?_ | (refine Yd ?_; simp only [X0, Nat.reduceBEq]) | (refine Ye ?_; refine Yf ?_) | (refine Yh ?_ ?_; (focus (simp; done)); refine Ys ?_) | refine Yg ?_ | (simp only [X0, Nat.reduceBEq]) | (clear hK K; first | (apply hK; clear hK K) | (clear hK K; first | (apply hK; clear hK K) | (clear hK K; first | (apply hK; clear hK K) | (clear hK K; apply hK; clear hK K)))))
  refine awp_seq' fun K1 hK1 hL1 => ?_
  have main1 : ∀ (ms : List (List UInt8)), ms.length ≤ l.length → (∀ p ∈ ms, p.length ≤ 20) → K1 ([.junk, .junk, .junk, .osl 0 0 ms.length 1, .junk, .junk, .junk, .junk, .junk, .junk, .junk, .junk, .junk, .junk, .junk, .junk, .junk, .junk, .junk, .junk, .junk, .junk, .junk, .junk, .junk, .junk, .junk, .junk, .junk, .junk, .junk, .junk, .junk, .junk, .junk, .junk]) [.live (ms.map V.str)] := by
    intro ms hm hps
    refine hK1 _ _ ?_
    clear hK1 hL1
    clear K1
    have e : List.take ms.length (ms.map V.str) = ms.map V.str := List.take_of_length_le (by simp)
    refine awp_freeze' 0 rfl (by simp) (by simp [fz, e]; rfl) (by simp [fzRow]; rfl) ?_
    repeat' (first | ((first | refine Y0 rfl fun K9 h9 => ?_ | (refine Y3 ?_ ?_; (focus (simp; done)); intro K9 h9)); simp (disch := first | exact dd | fail); (try simp (disch := first | exact de | fail) only [X7]); ((repeat (refine Yz ?_)); (first | refine h9 _ _ (Ys ?_)); clear h9 K9)) | refine Y6 ?_ | (refine Y8 fun K hK => ?_) | refine Y9 ?_ | (apply hK; clear hK K) | refine Ya ?_ | (refine Yb rfl ?_ ?_ <;> intro hcnd <;> (try simp at hcnd) <;> try exact dc) | refine Yc ?_ | (refine Yd ?_; simp only [X0, Nat.reduceBEq]) | (refine Ye ?_; refine Yf ?_) | (refine Yh ?_ ?_; (focus (simp; done)); refine Ys ?_) | refine Yg ?_ | (simp only [X0, Nat.reduceBEq]) | clear hK K)
    refine ⟨.sl ms.length (ms.map V.str), [], ⟨ms, hm, hps, rfl⟩, by simp, rfl, by simp, ?_⟩
    exact Le.mk [] (by simp [sget]) (rowsRen_of (by simp) (by simp [rowsOver])) (by simp)
  clear hK1
  repeat' (first | ((first | refine Y0 rfl fun K9 h9 => ?_ | (refine Y3 ?_ ?_; (focus (simp; done)); intro K9 h9)); simp (disch := first | exact dd | fail); (try simp (disch := first | exact de | fail) only [X7]); ((repeat (refine Yz ?_)); (first | refine h9 _ _ (Ys ?_)); clear h9 K9)) | refine Y6 ?_ | (refine Y8 fun K hK => ?_) | refine Y9 ?_ | (apply hK; clear hK K) | refine Ya ?_ | (refine Yb rfl ?_ ?_ <;> intro hcnd <;> (try simp at hcnd) <;> try exact dc) | refine Yc ?_ | (refine Yd ?_; simp only [X0, Nat.reduceBEq]) | (refine Ye ?_; refine Yf ?_) | (refine Yh ?_ ?_; (focus (simp; done)); refine Ys ?_) | refine Yg ?_ | (simp only [X0, Nat.reduceBEq]) | clear hK K)
  refine awp_loopU (α := Nat × List (List UInt8)) (fun q => (some V.junk :: none :: some V.junk :: some (V.osl 0 0 q.2.length 1) :: none :: zS 2 (none :: some V.junk :: zN 2 (some (V.int .i64 q.1) :: zS 24 [])))) (fun q => [.live (q.2.map V.str)]) (fun q => q.1 ≤ l.length ∧ q.2.length ≤ q.1 ∧ ∀ p ∈ q.2, p.length ≤ 20) (fun q => l.length - q.1) (0, []) ⟨by omega, by simp, by simp⟩ ?_ ?_
  · dsimp only [ups, zN, zS]
    exact Yr [none] (by simp [rowsOver])
  rintro ⟨i, ms⟩ ⟨hi, hpl, hps⟩ KL hL
  dsimp only at hi hpl hps
  dsimp only [ups, zN, zS]
  rcases Nat.lt_or_ge i l.length with hi | hi
  · have hx := hs _ (List.getElem_mem hi)
    obtain ⟨x, hxx⟩ : ∃ x, l[i] = x := ⟨_, rfl⟩
    rw [hxx] at hx
    have e : List.take ms.length (ms.map V.str) = ms.map V.str := List.take_of_length_le (by simp)
    clear main1 hL1
    iterate 23 (first | ((first | refine Y0 rfl fun K9 h9 => ?_ | (refine Y3 ?_ ?_; (focus (simp [hxx]; done)); intro K9 h9)); simp (disch := first | exact dd | fail) [hxx]; (try simp (disch := first | exact de | fail) only [X7]); ((repeat (refine Yz ?_)); (first | refine h9 _ _ (Ys ?_)); clear h9 K9)) | refine Y6 ?_ | (refine Y8 fun K hK => ?_) | refine Y9 ?_ | (apply hK; clear hK K) | refine Ya ?_ | (refine Yb rfl ?_ ?_ <;> intro hcnd <;> (try simp at hcnd) <;> try exact dc) | refine Yc ?_ | (refine Yd ?_; simp only [X0, Nat.reduceBEq]) | (refine Ye ?_; refine Yf ?_) | (refine Yh ?_ ?_; (focus (simp [hxx]; done)); refine Ys ?_) | refine Yg ?_ | (simp only [X0, Nat.reduceBEq]) | (clear hK K; first | (apply hK; clear hK K) | (clear hK K; first | (apply hK; clear hK K) | (clear hK K; first | (apply hK; clear hK K) | (clear hK K; apply hK; clear hK K)))))
    refine awp_seq' fun K2 hK2 hL2 => ?_
    have main2 : ∀ b : Bool, K2 ([.junk, .junk, .junk, .osl 0 0 ms.length 1, .junk, .str x, .bool b, .junk, .junk, .sl l.length (l.map V.str), .int .i64 l.length, .int .i64 i, .junk, .junk, .junk, .junk, .junk, .junk, .junk, .junk, .junk, .junk, .junk, .junk, .junk, .junk, .junk, .junk, .junk, .junk, .junk, .junk, .junk, .junk, .junk, .junk]) [.live (ms.map V.str)] := by
      intro b
      refine hK2 _ _ ?_
      clear hK2 hL2
      clear K2
      cases b
      · repeat' (first | ((first | refine Y0 rfl fun K9 h9 => ?_ | (refine Y3 ?_ ?_; (focus (simp [e]; done)); intro K9 h9)); simp (disch := first | exact dd | fail) [e]; (try simp (disch := first | exact de | fail) only [X7]); ((repeat (refine Yz ?_)); (first | refine h9 _ _ (Ys ?_)); clear h9 K9)) | refine Y6 ?_ | (refine Y8 fun K hK => ?_) | refine Y9 ?_ | (apply hK; clear hK K) | refine Ya ?_ | (refine Yb rfl ?_ ?_ <;> intro hcnd <;> (try simp at hcnd) <;> try exact dc) | refine Yc ?_ | (refine Yd ?_; simp only [X0, Nat.reduceBEq]) | (refine Ye ?_; refine Yf ?_) | (refine Yh ?_ ?_; (focus (simp [e]; done)); refine Ys ?_) | refine Yg ?_ | (simp only [X0, Nat.reduceBEq]) | clear hK K)
        have hp3 : Pures (ms.map V.str ++ [V.str x]) := by simp
        refine hL (i + 1, ms ++ [x]) _ _ ⟨by dsimp only; omega, by simp; omega, fun p hp => by simp at hp; rcases hp with hp | rfl; exact hps p hp; exact hx⟩ (by dsimp only; omega) ?_
        exact Yr [some 2] (by simp [rowsOver, rowRen_live, rens_pures hp3])
      · repeat' (first | ((first | refine Y0 rfl fun K9 h9 => ?_ | (refine Y3 ?_ ?_; (focus (simp [e]; done)); intro K9 h9)); simp (disch := first | exact dd | fail) [e]; (try simp (disch := first | exact de | fail) only [X7]); ((repeat (refine Yz ?_)); (first | refine h9 _ _ (Ys ?_)); clear h9 K9)) | refine Y6 ?_ | (refine Y8 fun K hK => ?_) | refine Y9 ?_ | (apply hK; clear hK K) | refine Ya ?_ | (refine Yb rfl ?_ ?_ <;> intro hcnd <;> (try simp at hcnd) <;> try exact dc) | refine Yc ?_ | (refine Yd ?_; simp only [X0, Nat.reduceBEq]) | (refine Ye ?_; refine Yf ?_) | (refine Yh ?_ ?_; (focus (simp [e]; done)); refine Ys ?_) | refine Yg ?_ | (simp only [X0, Nat.reduceBEq]) | clear hK K)
        refine hL (i + 1, ms) _ _ ⟨by dsimp only; omega, by dsimp only; omega, hps⟩ (by dsimp only; omega) ?_
        exact Yr [some 0] (by simp [rowsOver, rowRen_live])
    clear hK2
    clear hL
    repeat' (first | ((first | refine Y0 rfl fun K9 h9 => ?_ | (refine Y3 ?_ ?_; (focus (simp; done)); intro K9 h9)); simp (disch := first | exact dd | fail); (try simp (disch := first | exact de | fail) only [X7]); ((repeat (refine Yz ?_)); (first | refine h9 _ _ (Ys ?_)); clear h9 K9)) | refine Y6 ?_ | (refine Y8 fun K hK => ?_) | refine Y9 ?_ | (apply hK; clear hK K) | refine Ya ?_ | (refine Yb rfl ?_ ?_ <;> intro hcnd <;> (try simp at hcnd) <;> try exact dc) | refine Yc ?_ | (refine Yd ?_; simp only [X0, Nat.reduceBEq]) | (refine Ye ?_; refine Yf ?_) | (refine Yh ?_ ?_; (focus (simp; done)); refine Ys ?_) | refine Yg ?_ | (simp only [X0, Nat.reduceBEq]) | clear hK K)
    refine awp_loopU (α := Nat × Bool) (fun q => (some V.junk :: none :: some V.junk :: zN 3 (some (V.bool q.2) :: none :: some V.junk :: zN 3 (zS 3 (zN 2 (some (V.int .i64 q.1) :: zS 18 [])))))) (fun q => [.live (ms.map V.str)]) (fun q => q.1 ≤ ms.length) (fun q => ms.length - q.1) (0, false) (by simp) ?_ ?_
    · dsimp only [ups, zN, zS]
      exact Yr [some 0] (by simp [rowsOver, rowRen_live])
    rintro ⟨j, b⟩ hj KL2 hL3
    dsimp only at hj
    dsimp only [ups, zN, zS]
    rcases Nat.lt_or_ge j ms.length with hj | hj
    · obtain ⟨y, hyy⟩ : ∃ y, ms[j] = y := ⟨_, rfl⟩
      clear hL2 main2
      cases b
      · repeat' (first | ((first | refine Y0 rfl fun K9 h9 => ?_ | (refine Y3 ?_ ?_; (focus (simp [hyy]; done)); intro K9 h9)); simp (disch := first | exact dd | fail) [hyy]; (try simp (disch := first | exact de | fail) only [X7]); ((repeat (refine Yz ?_)); (first | refine h9 _ _ (Ys ?_)); clear h9 K9)) | refine Y6 ?_ | (refine Y8 fun K hK => ?_) | refine Y9 ?_ | (apply hK; clear hK K) | refine Ya ?_ | (refine Yb rfl ?_ ?_ <;> intro hcnd <;> (try simp at hcnd) <;> try exact dc) | refine Yc ?_ | (refine Yd ?_; simp only [X0, Nat.reduceBEq]) | (refine Ye ?_; refine Yf ?_) | (refine Yh ?_ ?_; (focus (simp [hyy]; done)); refine Ys ?_) | refine Yg ?_ | (simp only [X0, Nat.reduceBEq]) | clear hK K)
        refine hL3 (j + 1, y == x) _ _ (by dsimp only; omega) (by dsimp only; omega) ?_
        exact Yr [some 0] (by simp [rowsOver, rowRen_live])
      · repeat' (first | ((first | refine Y0 rfl fun K9 h9 => ?_ | (refine Y3 ?_ ?_; (focus (simp [hyy]; done)); intro K9 h9)); simp (disch := first | exact dd | fail) [hyy]; (try simp (disch := first | exact de | fail) only [X7]); ((repeat (refine Yz ?_)); (first | refine h9 _ _ (Ys ?_)); clear h9 K9)) | refine Y6 ?_ | (refine Y8 fun K hK => ?_) | refine Y9 ?_ | (apply hK; clear hK K) | refine Ya ?_ | (refine Yb rfl ?_ ?_ <;> intro hcnd <;> (try simp at hcnd) <;> try exact dc) | refine Yc ?_ | (refine Yd ?_; simp only [X0, Nat.reduceBEq]) | (refine Ye ?_; refine Yf ?_) | (refine Yh ?_ ?_; (focus (simp [hyy]; done)); refine Ys ?_) | refine Yg ?_ | (simp only [X0, Nat.reduceBEq]) | clear hK K)
        refine hL3 (j + 1, true) _ _ (by dsimp only; omega) (by dsimp only; omega) ?_
        exact Yr [some 0] (by simp [rowsOver, rowRen_live])
    · repeat' (first | ((first | refine Y0 rfl fun K9 h9 => ?_ | (refine Y3 ?_ ?_; (focus (simp; done)); intro K9 h9)); simp (disch := first | exact dd | fail); (try simp (disch := first | exact de | fail) only [X7]); ((repeat (refine Yz ?_)); (first | refine h9 _ _ (Ys ?_)); clear h9 K9)) | refine Y6 ?_ | (refine Y8 fun K hK => ?_) | refine Y9 ?_ | (apply hK; clear hK K) | refine Ya ?_ | (refine Yb rfl ?_ ?_ <;> intro hcnd <;> (try simp at hcnd) <;> try exact dc) | refine Yc ?_ | (refine Yd ?_; simp only [X0, Nat.reduceBEq]) | (refine Ye ?_; refine Yf ?_) | (refine Yh ?_ ?_; (focus (simp; done)); refine Ys ?_) | refine Yg ?_ | (simp only [X0, Nat.reduceBEq]) | clear hK K)
      refine hL2 _ _ _ _ ?_ (main2 b)
      exact Yr [some 0] (by simp [rowsOver, rowRen_live])
  · repeat' (first | ((first | refine Y0 rfl fun K9 h9 => ?_ | (refine Y3 ?_ ?_; (focus (simp; done)); intro K9 h9)); simp (disch := first | exact dd | fail); (try simp (disch := first | exact de | fail) only [X7]); ((repeat (refine Yz ?_)); (first | refine h9 _ _ (Ys ?_)); clear h9 K9)) | refine Y6 ?_ | (refine Y8 fun K hK => ?_) | refine Y9 ?_ | (apply hK; clear hK K) | refine Ya ?_ | (refine Yb rfl ?_ ?_ <;> intro hcnd <;> (try simp at hcnd) <;> try exact dc) | refine Yc ?_ | (refine Yd ?_; simp only [X0, Nat.reduceBEq]) | (refine Ye ?_; refine Yf ?_) | (refine Yh ?_ ?_; (focus (simp; done)); refine Ys ?_) | refine Yg ?_ | (simp only [X0, Nat.reduceBEq]) | clear hK K)
    refine hL1 _ _ _ _ ?_ (main1 ms (by omega) hps)
    exact Yr [some 0] (by simp [rowsOver, rowRen_live])
end Go.Proofs.YtcfmanhblonjeaaGreatDoor

