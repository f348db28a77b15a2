/-
  SCOPE: certificates and lists from a deck.
  Conditions: none.
-/
import Derived.Test.YtbdfghlkkdkpgaaDoorGe
import Derived.Test.YtbdfghlkkdkpgaaDoorGf
import Derived.Test.YtbdfghlkkdkpgaaDoorP1
import Derived.Test.YtbdfghlkkdkpgaaDoorP2
import Derived.Test.YtbdfghlkkdkpgaaDoorP3
import Derived.Test.YtbdfghlkkdkpgaaDoorP4
import Derived.Test.YtbdfghlkkdkpgaaDoorGj
import Derived.Test.YtbdfghlkkdkpgaaDoorGl
import Derived.Test.YtbdfghlkkdkpgaaDoorQ6
import Derived.Test.YtbdfghlkkdkpgaaDoorQ7
import Derived.Test.YtbdfghlkkdkpgaaDoorQ25
import Derived.Test.YtbdfghlkkdkpgaaDoorQ26
import Derived.Test.YtbdfghlkkdkpgaaDoorQ27
import Derived.Test.YtbdfghlkkdkpgaaDoorQ28
import Derived.Test.YtbdfghlkkdkpgaaDoorQ29
import Derived.Test.YtbdfghlkkdkpgaaDoorTab
import Derived.Test.YtbdfghlkkdkpgaaDoorGd
import Derived.Test.YtbdfghlkkdkpgaaDoorGi
import Derived.Test.YtbdfghlkkdkpgaaDoorVs33
import Derived.Test.YtbdfghlkkdkpgaaDoorVs34
import Derived.Test.YtbdfghlkkdkpgaaDoorVs35
import Derived.Test.YtbdfghlkkdkpgaaDoorVs36
set_option linter.all false
namespace Go.Stp
open Go.VS
def RM (r : Int) : Prop := r = 0 ∨ r = 2 ∨ r = 508 ∨ r = 510 ∨ r = 128
/-- The code behind the first n parts of a sequence. -/
def tlC : Nat → Code → Code
  | n + 1, .seq _ y => tlC n y
  | _, c => c
structure WLi (x : Li) : Prop where
  k : WLk x
  r : RM x.sc.reasons
def l0 (n : Nm) (k : Int) (ak : List UInt8) : Li := ⟨[], [], n, 0, 0, k, -1, ak, false, ⟨[], false, false, 0, false⟩, [], [], []⟩
theorem l0_w {n : Nm} {k : Int} {ak : List UInt8} (h : WN n) : WLi (l0 n k ak) := ⟨⟨h, fun x hx => by simp [l0] at hx, by simp [l0]⟩, .inl rfl⟩
theorem authN_w (k : Nat) : WN (authN k) := by
  unfold WN authN authV
  by_cases h : k % 2 = 1 <;> by_cases h8 : 8 ≤ k % 16 <;> simp [h, h8]
theorem placeL_len : ∀ p ∈ placeL, p.length ≤ 20 := by decide
theorem place_wgk (k : Int) : WGk (placeG k) := by
  refine ⟨.inl rfl, ?_, by simp [placeG, WN]⟩
  show (placeL.getD k.toNat []).length ≤ 65536
  rw [List.getD_eq_getElem?_getD]
  cases h : placeL[k.toNat]? with
  | none => simp
  | some x =>
    have := placeL_len x (List.mem_of_getElem? h)
    simp only [Option.getD_some]
    omega
theorem WPt.k {p : Pt} (h : WPt p) : WPk p := by
  have hn : ∀ x ∈ p.names, WGk x := fun x hx => by
    rcases h.names with e | ⟨k, -, -, e⟩
    · rw [e] at hx; simp at hx
    · rw [e] at hx; simp at hx; subst hx; exact place_wgk k
  refine ⟨hn, ?_, ?_⟩
  · rcases h.names with e | ⟨k, -, -, e⟩ <;> simp [e]
  · rcases h.issuer with ⟨-, e, -⟩ | ⟨-, j, -, -, e⟩
    · rw [e]; simp [WN]
    · rw [e]; exact authN_w _
end Go.Stp
namespace Go.Proofs.YtbdfghlkkdkpgaaDoor
open Go.VS Go.Stp
set_option linter.all false
set_option maxRecDepth 100000
set_option maxHeartbeats 16000000
attribute [local irreducible] arun arunD arunU AWp aend
noncomputable def listB : Code := (Tryd.f20.body).getD .ret
def listE (l : List Int) : Exit → KS := aend Tryd.prog Tryd.f20.results.toList fun r' rs => ∃ r rows', (∃ a', a' ≤ l.length ∧ (∃ x : Li, WLi x ∧ r = .agg x.c) ∧ rows' = [dk l a']) ∧ r.Pure ∧ rows'.length = 1 ∧ (∀ x ∈ rows', Pures x) ∧ Le 1 [r'] rs [r] (lives rows')
theorem list_t4 {l : List Int} (h : DkOk l) (x : Li) (b : Nat) (hx : WLi x) (hb : b ≤ l.length) : AWp Tryd.prog 1 (tlC 4 listB) (listE l) (((V.ref 0 0) :: V.junk :: (V.ref 1 0) :: (V.ref 2 0) :: V.junk :: V.junk :: V.junk :: V.junk :: V.junk :: V.junk :: V.junk :: V.junk :: V.junk :: V.junk :: V.junk :: V.junk :: V.junk :: V.junk :: V.junk :: V.junk :: V.junk :: V.junk :: V.junk :: V.junk :: V.junk :: V.junk :: V.junk :: V.junk :: V.junk :: V.junk :: V.junk :: V.junk :: V.junk :: V.junk :: V.junk :: V.junk :: V.junk :: V.junk :: V.junk :: V.junk :: V.junk :: V.junk :: V.junk :: V.junk :: V.junk :: V.junk :: V.junk :: V.junk :: V.junk :: V.junk :: V.junk :: V.junk :: V.junk :: V.junk :: V.junk :: V.junk :: V.junk :: V.junk :: V.junk :: V.junk :: V.junk :: V.junk :: V.junk :: V.junk :: V.junk :: V.junk :: V.junk :: V.junk :: V.junk :: V.junk :: V.junk :: V.junk :: V.junk :: V.junk :: V.junk :: V.junk :: V.junk :: V.junk :: V.junk :: V.junk :: V.junk :: V.junk :: [])) [.live (dk l b), .live [.str [], .str [], .sl 0 [], .int .i64 0, .int .i64 0, .int .i64 0, .int .i64 0, .str [], .bool false, .sl 0 [], .bool false, .bool false, .int .i64 0, .bool false, .sl 0 [], .sl 0 [], .str []], .live [.str x.raw, .str x.tbs, nmV x.issuer, .int .i64 x.this, .int .i64 x.next, .int .i64 x.number, .int .i64 x.base, .str x.ak, .bool x.has, gnsV x.sc.names, .bool x.sc.ou, .bool x.sc.oc, .int .i64 x.sc.reasons, .bool x.sc.ind, ptsV x.fresh, ensV x.entries, .str x.sig]] := by
  /- refine pcall_body Tryd.func20 rfl Tryd.call20 ?_ ?_
     rotate_left 1
     refine awp_slots (s' := ((.ref 0 0 : V) :: V.junk :: V.junk :: V.junk :: V.junk :: V.junk :: V.junk :: V.junk :: V.junk :: V.junk :: V.junk :: V.junk :: V.junk :: V.junk :: V.junk :: V.junk :: V.junk :: V.junk :: V.junk :: V.junk :: V.junk :: V.junk :: V.junk :: V.junk :: V.junk :: V.junk :: V.junk :: V.junk :: V.junk :: V.junk :: V.junk :: V.junk :: V.junk :: V.junk :: V.junk :: V.junk :: V.junk :: V.junk :: V.junk :: V.junk :: V.junk :: V.junk :: V.junk :: V.junk :: V.junk :: V.junk :: V.junk :: V.junk :: V.junk :: V.junk :: V.junk :: V.junk :: V.junk :: V.junk :: V.junk :: V.junk :: V.junk :: V.junk :: V.junk :: V.junk :: V.junk :: V.junk :: V.junk :: V.junk :: V.junk :: V.junk :: V.junk :: V.junk :: V.junk :: V.junk :: V.junk :: V.junk :: V.junk :: V.junk :: V.junk :: V.junk :: V.junk :: V.junk :: V.junk :: V.junk :: V.junk :: V.junk :: [])) rfl ?_ -/
  unfold listE
  repeat' (first | (refine Y0 rfl fun K9 h9 => ?_; simp (disch := (first | (simp; done) | omega | (simp; omega))); (try simp (disch := (first | omega | (simp; omega))) only [X7, X8, X9, Xa, Xb, Xc]); ((repeat (refine Yz ?_)); (first | refine h9 _ _ (Ys ?_)); clear h9 K9)) | refine Y6 ?_ | (refine Y8 fun K hK => ?_) | refine Y9 ?_ | (apply hK; clear hK K) | (refine Yb rfl (fun hcnd => ?_) (fun hcnd => ?_) <;> (try simp at hcnd) <;> (try contradiction) <;> (try (exfalso; omega))) | refine Yc ?_ | (refine Ye ?_; refine Yf ?_) | refine Yg ?_ | (simp only [X0, X1, X2, X3, X4, X5, X6, Nat.reduceBEq]) | (clear hK K; first | (apply hK; clear hK K) | (clear hK K; first | (apply hK; clear hK K) | (clear hK K; first | (apply hK; clear hK K) | (clear hK K; apply hK; clear hK K)))))
  refine ares_cell 1 0 17 rfl rfl rfl (by simp) (by kernel_rfl) (by kernel_rfl) (by simp) ?_
  refine ⟨.agg [.str x.raw, .str x.tbs, nmV x.issuer, .int .i64 x.this, .int .i64 x.next, .int .i64 x.number, .int .i64 x.base, .str x.ak, .bool x.has, gnsV x.sc.names, .bool x.sc.ou, .bool x.sc.oc, .int .i64 x.sc.reasons, .bool x.sc.ind, ptsV x.fresh, ensV x.entries, .str x.sig], [dk l b], ⟨b, hb, ⟨x, hx, rfl⟩, rfl⟩, by simp, rfl, by simp, ?_⟩
  exact Le.mk [some 0] (by simp [sget]) (rowsRen_of (by simp) (by simp [rowsOver, rowRen_live, rens_pures])) (by simp)

theorem list_t3 {l : List Int} (h : DkOk l) (x : Li) (b : Nat) (hx : WLi x) (hb : b ≤ l.length) : AWp Tryd.prog 1 (tlC 3 listB) (listE l) (((V.ref 0 0) :: V.junk :: (V.ref 1 0) :: (V.ref 2 0) :: V.junk :: V.junk :: V.junk :: V.junk :: V.junk :: V.junk :: V.junk :: V.junk :: V.junk :: V.junk :: V.junk :: V.junk :: V.junk :: V.junk :: V.junk :: V.junk :: V.junk :: V.junk :: V.junk :: V.junk :: V.junk :: V.junk :: V.junk :: V.junk :: V.junk :: V.junk :: V.junk :: V.junk :: V.junk :: V.junk :: V.junk :: V.junk :: V.junk :: V.junk :: V.junk :: V.junk :: V.junk :: V.junk :: V.junk :: V.junk :: V.junk :: V.junk :: V.junk :: V.junk :: V.junk :: V.junk :: V.junk :: V.junk :: V.junk :: V.junk :: V.junk :: V.junk :: V.junk :: V.junk :: V.junk :: V.junk :: V.junk :: V.junk :: V.junk :: V.junk :: V.junk :: V.junk :: V.junk :: V.junk :: V.junk :: V.junk :: V.junk :: V.junk :: V.junk :: V.junk :: V.junk :: V.junk :: V.junk :: V.junk :: V.junk :: V.junk :: V.junk :: V.junk :: [])) [.live (dk l b), .live [.str [], .str [], .sl 0 [], .int .i64 0, .int .i64 0, .int .i64 0, .int .i64 0, .str [], .bool false, .sl 0 [], .bool false, .bool false, .int .i64 0, .bool false, .sl 0 [], .sl 0 [], .str []], .live [.str x.raw, .str x.tbs, nmV x.issuer, .int .i64 x.this, .int .i64 x.next, .int .i64 x.number, .int .i64 x.base, .str x.ak, .bool x.has, gnsV x.sc.names, .bool x.sc.ou, .bool x.sc.oc, .int .i64 x.sc.reasons, .bool x.sc.ind, ptsV x.fresh, ensV x.entries, .str x.sig]] := by
  /- refine pcall_body Tryd.func20 rfl Tryd.call20 ?_ ?_
     rotate_left 1
     refine awp_slots (s' := ((.ref 0 0 : V) :: V.junk :: V.junk :: V.junk :: V.junk :: V.junk :: V.junk :: V.junk :: V.junk :: V.junk :: V.junk :: V.junk :: V.junk :: V.junk :: V.junk :: V.junk :: V.junk :: V.junk :: V.junk :: V.junk :: V.junk :: V.junk :: V.junk :: V.junk :: V.junk :: V.junk :: V.junk :: V.junk :: V.junk :: V.junk :: V.junk :: V.junk :: V.junk :: V.junk :: V.junk :: V.junk :: V.junk :: V.junk :: V.junk :: V.junk :: V.junk :: V.junk :: V.junk :: V.junk :: V.junk :: V.junk :: V.junk :: V.junk :: V.junk :: V.junk :: V.junk :: V.junk :: V.junk :: V.junk :: V.junk :: V.junk :: V.junk :: V.junk :: V.junk :: V.junk :: V.junk :: V.junk :: V.junk :: V.junk :: V.junk :: V.junk :: V.junk :: V.junk :: V.junk :: V.junk :: V.junk :: V.junk :: V.junk :: V.junk :: V.junk :: V.junk :: V.junk :: V.junk :: V.junk :: V.junk :: V.junk :: V.junk :: [])) rfl ?_ -/
  have n2 : DC Tryd.prog 18 [.int .i64 2] l (IntQ 2) := next_dc h 2 (by omega) (by omega)
  have n3 : DC Tryd.prog 18 [.int .i64 3] l (IntQ 3) := next_dc h 3 (by omega) (by omega)
  have n4 : DC Tryd.prog 18 [.int .i64 4] l (IntQ 4) := next_dc h 4 (by omega) (by omega)
  have n5 : DC Tryd.prog 18 [.int .i64 5] l (IntQ 5) := next_dc h 5 (by omega) (by omega)
  have n6 : DC Tryd.prog 18 [.int .i64 6] l (IntQ 6) := next_dc h 6 (by omega) (by omega)
  have hpt := points_dc h
  refine awp_seqJ fun K3 hK3 hJ3 => ?_
  have main3 : ∀ (x : Li) (b : Nat), WLi x → b ≤ l.length → K3 (((V.ref 0 0) :: V.junk :: (V.ref 1 0) :: (V.ref 2 0) :: V.junk :: V.junk :: V.junk :: V.junk :: V.junk :: V.junk :: V.junk :: V.junk :: V.junk :: V.junk :: V.junk :: V.junk :: V.junk :: V.junk :: V.junk :: V.junk :: V.junk :: V.junk :: V.junk :: V.junk :: V.junk :: V.junk :: V.junk :: V.junk :: V.junk :: V.junk :: V.junk :: V.junk :: V.junk :: V.junk :: V.junk :: V.junk :: V.junk :: V.junk :: V.junk :: V.junk :: V.junk :: V.junk :: V.junk :: V.junk :: V.junk :: V.junk :: V.junk :: V.junk :: V.junk :: V.junk :: V.junk :: V.junk :: V.junk :: V.junk :: V.junk :: V.junk :: V.junk :: V.junk :: V.junk :: V.junk :: V.junk :: V.junk :: V.junk :: V.junk :: V.junk :: V.junk :: V.junk :: V.junk :: V.junk :: V.junk :: V.junk :: V.junk :: V.junk :: V.junk :: V.junk :: V.junk :: V.junk :: V.junk :: V.junk :: V.junk :: V.junk :: V.junk :: [])) [.live (dk l b), .live [.str [], .str [], .sl 0 [], .int .i64 0, .int .i64 0, .int .i64 0, .int .i64 0, .str [], .bool false, .sl 0 [], .bool false, .bool false, .int .i64 0, .bool false, .sl 0 [], .sl 0 [], .str []], .live [.str x.raw, .str x.tbs, nmV x.issuer, .int .i64 x.this, .int .i64 x.next, .int .i64 x.number, .int .i64 x.base, .str x.ak, .bool x.has, gnsV x.sc.names, .bool x.sc.ou, .bool x.sc.oc, .int .i64 x.sc.reasons, .bool x.sc.ind, ptsV x.fresh, ensV x.entries, .str x.sig]] := fun x b hx hb => hK3 _ _ (list_t4 h x b hx hb)
  clear hK3
  refine awp_seq fun K hK => ?_
  repeat' (first | (refine Y0 rfl fun K9 h9 => ?_; simp (disch := (first | (simp; done) | omega | (simp; omega))); (try simp (disch := (first | omega | (simp; omega))) only [X7, X8, X9, Xa, Xb, Xc]); ((first | (refine acall_dc n2 rfl (by assumption) (by simp) (fun r wa' ha' hQ hr => ?_); obtain ⟨w, w1, w2, rfl⟩ := hQ; clear hr) | skip) <;> ((repeat (refine Yz ?_)); (first | refine h9 _ _ (Ys ?_)); clear h9 K9))) | refine Y6 ?_ | refine Y9 ?_ | (refine Yb rfl (fun hcnd => ?_) (fun hcnd => ?_) <;> (try simp at hcnd) <;> (try contradiction) <;> (try (exfalso; omega))) | refine Yc ?_ | (refine Ye ?_; refine Yf ?_) | refine Yg ?_ | (simp only [X0, X1, X2, X3, X4, X5, X6, Nat.reduceBEq]))
  refine hK _ _ ?_; clear hK K
  refine awp_cond rfl (fun hcnd => ?_) (fun hcnd => ?_)
  · refine awp_seq fun K hK => ?_
    repeat' (first | (refine Y0 rfl fun K9 h9 => ?_; simp (disch := (first | (simp; done) | omega | (simp; omega))); (try simp (disch := (first | omega | (simp; omega))) only [X7, X8, X9, Xa, Xb, Xc]); ((first | (refine acall_dc n5 rfl (by assumption) (by simp) (fun r oa' ha' hQ hr => ?_); obtain ⟨o, o1, o2, rfl⟩ := hQ; clear hr) | (refine acall_dc n3 rfl (by assumption) (by simp) (fun r qa' ha' hQ hr => ?_); obtain ⟨q, q1, q2, rfl⟩ := hQ; clear hr) | skip) <;> ((repeat (refine Yz ?_)); (first | refine h9 _ _ (Ys ?_)); clear h9 K9))) | refine Y6 ?_ | refine Y9 ?_ | (refine Yb rfl (fun hcnd => ?_) (fun hcnd => ?_) <;> (try simp at hcnd) <;> (try contradiction) <;> (try (exfalso; omega))) | refine Yc ?_ | (refine Ye ?_; refine Yf ?_) | refine Yg ?_ | (simp only [X0, X1, X2, X3, X4, X5, X6, Nat.reduceBEq]))
    refine hK _ _ ?_; clear hK K
    refine awp_seq fun K hK => ?_
    repeat' (first | (refine Y0 rfl fun K9 h9 => ?_; simp (disch := (first | (simp; done) | omega | (simp; omega))); (try simp (disch := (first | omega | (simp; omega))) only [X7, X8, X9, Xa, Xb, Xc]); ((first | (refine acall_dc n5 rfl (by assumption) (by simp) (fun r oa' ha' hQ hr => ?_); obtain ⟨o, o1, o2, rfl⟩ := hQ; clear hr) | (refine acall_dc n3 rfl (by assumption) (by simp) (fun r qa' ha' hQ hr => ?_); obtain ⟨q, q1, q2, rfl⟩ := hQ; clear hr) | skip) <;> ((repeat (refine Yz ?_)); (first | refine h9 _ _ (Ys ?_)); clear h9 K9))) | refine Y6 ?_ | refine Y9 ?_ | (refine Yb rfl (fun hcnd => ?_) (fun hcnd => ?_) <;> (try simp at hcnd) <;> (try contradiction) <;> (try (exfalso; omega))) | refine Yc ?_ | (refine Ye ?_; refine Yf ?_) | refine Yg ?_ | (simp only [X0, X1, X2, X3, X4, X5, X6, Nat.reduceBEq]))
    refine hK _ _ ?_; clear hK K
    refine awp_seq fun K hK => ?_
    repeat' (first | (refine Y0 rfl fun K9 h9 => ?_; simp (disch := (first | (simp; done) | omega | (simp; omega))); (try simp (disch := (first | omega | (simp; omega))) only [X7, X8, X9, Xa, Xb, Xc]); ((first | (refine acall_dc n5 rfl (by assumption) (by simp) (fun r oa' ha' hQ hr => ?_); obtain ⟨o, o1, o2, rfl⟩ := hQ; clear hr) | (refine acall_dc n3 rfl (by assumption) (by simp) (fun r qa' ha' hQ hr => ?_); obtain ⟨q, q1, q2, rfl⟩ := hQ; clear hr) | skip) <;> ((repeat (refine Yz ?_)); (first | refine h9 _ _ (Ys ?_)); clear h9 K9))) | refine Y6 ?_ | refine Y9 ?_ | (refine Yb rfl (fun hcnd => ?_) (fun hcnd => ?_) <;> (try simp at hcnd) <;> (try contradiction) <;> (try (exfalso; omega))) | refine Yc ?_ | (refine Ye ?_; refine Yf ?_) | refine Yg ?_ | (simp only [X0, X1, X2, X3, X4, X5, X6, Nat.reduceBEq]))
    refine hK _ _ ?_; clear hK K
    rename_i oaA haA oA o1A o2A haB
    refine awp_seqJ fun K4 hK4 hJ4 => ?_
    have main4 : ∀ (x : Li) (b : Nat), WLi x → b ≤ l.length → K4 (((V.ref 0 0) :: V.junk :: (V.ref 1 0) :: (V.ref 2 0) :: (V.ref 2 9) :: V.junk :: V.junk :: V.junk :: V.junk :: V.junk :: V.junk :: V.junk :: V.junk :: V.junk :: V.junk :: V.junk :: V.junk :: V.junk :: V.junk :: V.junk :: V.junk :: V.junk :: V.junk :: V.junk :: V.junk :: V.junk :: V.junk :: V.junk :: V.junk :: V.junk :: V.junk :: V.junk :: V.junk :: V.junk :: V.junk :: V.junk :: V.junk :: V.junk :: V.junk :: V.junk :: V.junk :: V.junk :: V.junk :: V.junk :: V.junk :: V.junk :: V.junk :: V.junk :: V.junk :: V.junk :: V.junk :: V.junk :: V.junk :: V.junk :: V.junk :: V.junk :: V.junk :: V.junk :: V.junk :: V.junk :: V.junk :: V.junk :: V.junk :: V.junk :: V.junk :: V.junk :: V.junk :: V.junk :: V.junk :: V.junk :: V.junk :: V.junk :: V.junk :: V.junk :: V.junk :: V.junk :: V.junk :: V.junk :: V.junk :: V.junk :: V.junk :: V.junk :: [])) [.live (dk l b), .live [.str [], .str [], .sl 0 [], .int .i64 0, .int .i64 0, .int .i64 0, .int .i64 0, .str [], .bool false, .sl 0 [], .bool false, .bool false, .int .i64 0, .bool false, .sl 0 [], .sl 0 [], .str []], .live [.str x.raw, .str x.tbs, nmV x.issuer, .int .i64 x.this, .int .i64 x.next, .int .i64 x.number, .int .i64 x.base, .str x.ak, .bool x.has, gnsV x.sc.names, .bool x.sc.ou, .bool x.sc.oc, .int .i64 x.sc.reasons, .bool x.sc.ind, ptsV x.fresh, ensV x.entries, .str x.sig]] := by
      clear hcnd
      clear hx hb
      clear x b
      intro x b hx hb
      refine hK4 _ _ ?_
      clear hK4 hJ4
      clear K4
      refine awp_seq fun K hK => ?_
      repeat' (first | (refine Y0 rfl fun K9 h9 => ?_; simp (disch := (first | (simp; done) | omega | (simp; omega))); (try simp (disch := (first | omega | (simp; omega))) only [X7, X8, X9, Xa, Xb, Xc]); ((first | (refine acall_dc hpt rfl (by assumption) (by simp) (fun r pa' ha' hQ hr => ?_); obtain ⟨ps, hp1, hp3, hpw, rfl⟩ := hQ; clear hr) | skip) <;> ((repeat (refine Yz ?_)); (first | refine h9 _ _ (Ys ?_)); clear h9 K9))) | refine Y6 ?_ | refine Y9 ?_ | (refine Yb rfl (fun hcnd => ?_) (fun hcnd => ?_) <;> (try simp at hcnd) <;> (try contradiction) <;> (try (exfalso; omega))) | refine Yc ?_ | (refine Ye ?_; refine Yf ?_) | refine Yg ?_ | (simp only [X0, X1, X2, X3, X4, X5, X6, Nat.reduceBEq]))
      refine hK _ _ ?_; clear hK K
      obtain ⟨p, ps, rfl⟩ : ∃ p ps', ps = p :: ps' := by
        cases ps with
        | nil => simp at hp1
        | cons p ps => exact ⟨_, _, rfl⟩
      have hpk := (hpw p (by simp)).k
      have e : ptsV (p :: ps) = .sl (ps.length + 1) (.sl p.names.length (p.names.flatMap Gn.c) :: .int .i64 p.reasons :: .bool p.has :: nmV p.issuer :: ps.flatMap Pt.c) := by simp [ptsV, Pt.c, gnsV]
      rw [e]
      clear e hpw
      generalize ps.flatMap Pt.c = tl at *
      refine awp_seqJ fun K5 hK5 hJ5 => ?_
      have main5 : ∀ (x : Li) (b : Nat), WLi x → b ≤ l.length → K5 (((V.ref 0 0) :: V.junk :: (V.ref 1 0) :: (V.ref 2 0) :: (V.ref 2 9) :: V.junk :: V.junk :: V.junk :: V.junk :: V.junk :: V.junk :: V.junk :: V.junk :: V.junk :: V.junk :: V.junk :: V.junk :: V.junk :: V.junk :: V.junk :: V.junk :: V.junk :: V.junk :: V.junk :: V.junk :: V.junk :: V.junk :: V.junk :: V.junk :: V.junk :: V.junk :: V.junk :: V.junk :: V.junk :: V.junk :: V.junk :: V.junk :: V.junk :: V.junk :: V.junk :: V.junk :: V.junk :: V.junk :: V.junk :: V.junk :: V.junk :: V.junk :: V.junk :: V.junk :: V.junk :: V.junk :: V.junk :: V.junk :: V.junk :: V.junk :: V.junk :: V.junk :: V.junk :: V.junk :: V.junk :: V.junk :: V.junk :: V.junk :: V.junk :: V.junk :: V.junk :: V.junk :: V.junk :: V.junk :: V.junk :: V.junk :: V.junk :: V.junk :: V.junk :: V.junk :: V.junk :: V.junk :: V.junk :: V.junk :: V.junk :: V.junk :: V.junk :: [])) [.live (dk l b), .live [.str [], .str [], .sl 0 [], .int .i64 0, .int .i64 0, .int .i64 0, .int .i64 0, .str [], .bool false, .sl 0 [], .bool false, .bool false, .int .i64 0, .bool false, .sl 0 [], .sl 0 [], .str []], .live [.str x.raw, .str x.tbs, nmV x.issuer, .int .i64 x.this, .int .i64 x.next, .int .i64 x.number, .int .i64 x.base, .str x.ak, .bool x.has, gnsV x.sc.names, .bool x.sc.ou, .bool x.sc.oc, .int .i64 x.sc.reasons, .bool x.sc.ind, ptsV x.fresh, ensV x.entries, .str x.sig]] := by
        clear hx hb
        clear x b
        intro x b hx hb
        refine hK5 _ _ ?_
        clear hK5 hJ5
        clear K5
        refine awp_seq fun K hK => ?_
        repeat' (first | (refine Y0 rfl fun K9 h9 => ?_; simp (disch := (first | (simp; done) | omega | (simp; omega))); (try simp (disch := (first | omega | (simp; omega))) only [X7, X8, X9, Xa, Xb, Xc]); ((first | (refine acall_dc n4 rfl (by assumption) (by simp) (fun r wa' ha' hQ hr => ?_); obtain ⟨w, w1, w2, rfl⟩ := hQ; clear hr) | skip) <;> ((repeat (refine Yz ?_)); (first | refine h9 _ _ (Ys ?_)); clear h9 K9))) | refine Y6 ?_ | refine Y9 ?_ | (refine Yb rfl (fun hcnd => ?_) (fun hcnd => ?_) <;> (try simp at hcnd) <;> (try contradiction) <;> (try (exfalso; omega))) | refine Yc ?_ | (refine Ye ?_; refine Yf ?_) | refine Yg ?_ | (simp only [X0, X1, X2, X3, X4, X5, X6, Nat.reduceBEq]))
        refine hK _ _ ?_; clear hK K
        refine awp_cond rfl (fun hcnd => ?_) (fun hcnd => ?_)
        · repeat' (first | (refine Y0 rfl fun K9 h9 => ?_; simp (disch := (first | (simp; done) | omega | (simp; omega))); (try simp (disch := (first | omega | (simp; omega))) only [X7, X8, X9, Xa, Xb, Xc]); ((first | (refine acall_dc n4 rfl (by assumption) (by simp) (fun r ya' ha' hQ hr => ?_); obtain ⟨y, y1, y2, rfl⟩ := hQ; clear hr) | refine acall_pure (named_i _ (by omega) (by omega)) (by simp) ?_ | refine acall_pure (auth_call _ (namedN_lt _ (by omega))) (by simp) ?_ | skip) <;> ((repeat (refine Yz ?_)); (first | refine h9 _ _ (Ys ?_)); clear h9 K9))) | refine Y6 ?_ | (refine Y8 fun K hK => ?_) | refine Y9 ?_ | (apply hK; clear hK K) | (refine Yb rfl (fun hcnd => ?_) (fun hcnd => ?_) <;> (try simp at hcnd) <;> (try contradiction) <;> (try (exfalso; omega))) | refine Yc ?_ | (refine Ye ?_; refine Yf ?_) | refine Yg ?_ | (simp only [X0, X1, X2, X3, X4, X5, X6, Nat.reduceBEq]) | (clear hK K; first | (apply hK; clear hK K) | (clear hK K; first | (apply hK; clear hK K) | (clear hK K; first | (apply hK; clear hK K) | (clear hK K; apply hK; clear hK K)))))
          have hg : gnsV [dirG (authN (namedN y.toNat))] = .sl 1 [.int .i64 4, .str [], nmV (authN (namedN y.toNat))] := rfl
          refine hJ3.fz 3 (rows' := [.live (dk l ya'), .live [.str [], .str [], .sl 0 [], .int .i64 0, .int .i64 0, .int .i64 0, .int .i64 0, .str [], .bool false, .sl 0 [], .bool false, .bool false, .int .i64 0, .bool false, .sl 0 [], .sl 0 [], .str []], .live [.str x.raw, .str x.tbs, nmV x.issuer, .int .i64 x.this, .int .i64 x.next, .int .i64 x.number, .int .i64 x.base, .str x.ak, .bool x.has, .sl 1 [.int .i64 4, .str [], nmV (authN (namedN y.toNat))], .bool x.sc.ou, .bool x.sc.oc, .int .i64 x.sc.reasons, .bool x.sc.ind, ptsV x.fresh, ensV x.entries, .str x.sig], .dead]) rfl (by simp) (by simp [fz]; rfl) rfl ?_
          refine hJ3.le _ _ _ _ ?_ (main3 { x with sc := { x.sc with names := [dirG (authN (namedN y.toNat))] } } ya' ⟨⟨hx.k.issuer, fun g hg => by simp at hg; subst hg; exact dir_wgk (authN_w _), by simp⟩, hx.r⟩ ha')
          exact Yr [some 0, some 1, some 2] (by simp [rowsOver, rowRen_live, rens_pures, hg])
        · repeat' (first | (refine Y0 rfl fun K9 h9 => ?_; simp (disch := (first | (simp; done) | omega | (simp; omega))); (try simp (disch := (first | omega | (simp; omega))) only [X7, X8, X9, Xa, Xb, Xc]); ((repeat (refine Yz ?_)); (first | refine h9 _ _ (Ys ?_)); clear h9 K9)) | refine Y6 ?_ | (refine Y8 fun K hK => ?_) | refine Y9 ?_ | (apply hK; clear hK K) | (refine Yb rfl (fun hcnd => ?_) (fun hcnd => ?_) <;> (try simp at hcnd) <;> (try contradiction) <;> (try (exfalso; omega))) | refine Yc ?_ | (refine Ye ?_; refine Yf ?_) | refine Yg ?_ | (simp only [X0, X1, X2, X3, X4, X5, X6, Nat.reduceBEq]) | (clear hK K; first | (apply hK; clear hK K) | (clear hK K; first | (apply hK; clear hK K) | (clear hK K; first | (apply hK; clear hK K) | (clear hK K; apply hK; clear hK K)))))
          refine hJ3.le _ _ _ _ ?_ (main3 x wa' hx ha')
          exact Yr [some 0, some 1, some 2] (by simp [rowsOver, rowRen_live, rens_pures])
      clear hK5
      refine awp_seq fun K hK => ?_
      repeat' (first | (refine Y0 rfl fun K9 h9 => ?_; simp (disch := (first | (simp; done) | omega | (simp; omega))); (try simp (disch := (first | omega | (simp; omega))) only [X7, X8, X9, Xa, Xb, Xc]); ((first | (refine acall_dc n2 rfl (by assumption) (by simp) (fun r wa' ha' hQ hr => ?_); obtain ⟨w, w1, w2, rfl⟩ := hQ; clear hr) | skip) <;> ((repeat (refine Yz ?_)); (first | refine h9 _ _ (Ys ?_)); clear h9 K9))) | refine Y6 ?_ | refine Y9 ?_ | (refine Yb rfl (fun hcnd => ?_) (fun hcnd => ?_) <;> (try simp at hcnd) <;> (try contradiction) <;> (try (exfalso; omega))) | refine Yc ?_ | (refine Ye ?_; refine Yf ?_) | refine Yg ?_ | (simp only [X0, X1, X2, X3, X4, X5, X6, Nat.reduceBEq]))
      refine hK _ _ ?_; clear hK K
      refine awp_cond rfl (fun hcnd => ?_) (fun hcnd => ?_)
      · repeat' (first | (refine Y0 rfl fun K9 h9 => ?_; simp (disch := (first | (simp; done) | omega | (simp; omega))); (try simp (disch := (first | omega | (simp; omega))) only [X7, X8, X9, Xa, Xb, Xc]); ((repeat (refine Yz ?_)); (first | refine h9 _ _ (Ys ?_)); clear h9 K9)) | refine Y6 ?_ | (refine Y8 fun K hK => ?_) | refine Y9 ?_ | (apply hK; clear hK K) | (refine Yb rfl (fun hcnd => ?_) (fun hcnd => ?_) <;> (try simp at hcnd) <;> (try contradiction) <;> (try (exfalso; omega))) | refine Yc ?_ | (refine Ye ?_; refine Yf ?_) | refine Yg ?_ | (simp only [X0, X1, X2, X3, X4, X5, X6, Nat.reduceBEq]) | (clear hK K; first | (apply hK; clear hK K) | (clear hK K; first | (apply hK; clear hK K) | (clear hK K; first | (apply hK; clear hK K) | (clear hK K; apply hK; clear hK K)))))
        refine hJ5.le _ _ _ _ ?_ (main5 { x with sc := { x.sc with names := p.names } } wa' ⟨⟨hx.k.issuer, hpk.names, hpk.few⟩, hx.r⟩ ha')
        exact Yr [some 0, some 1, some 2] (by simp [rowsOver, rowRen_live, rens_pures, gnsV])
      · repeat' (first | (refine Y0 rfl fun K9 h9 => ?_; simp (disch := (first | (simp; done) | omega | (simp; omega))); (try simp (disch := (first | omega | (simp; omega))) only [X7, X8, X9, Xa, Xb, Xc]); ((repeat (refine Yz ?_)); (first | refine h9 _ _ (Ys ?_)); clear h9 K9)) | refine Y6 ?_ | (refine Y8 fun K hK => ?_) | refine Y9 ?_ | (apply hK; clear hK K) | (refine Yb rfl (fun hcnd => ?_) (fun hcnd => ?_) <;> (try simp at hcnd) <;> (try contradiction) <;> (try (exfalso; omega))) | refine Yc ?_ | (refine Ye ?_; refine Yf ?_) | refine Yg ?_ | (simp only [X0, X1, X2, X3, X4, X5, X6, Nat.reduceBEq]) | (clear hK K; first | (apply hK; clear hK K) | (clear hK K; first | (apply hK; clear hK K) | (clear hK K; first | (apply hK; clear hK K) | (clear hK K; apply hK; clear hK K)))))
        refine hJ5.le _ _ _ _ ?_ (main5 x wa' hx ha')
        exact Yr [some 0, some 1, some 2] (by simp [rowsOver, rowRen_live, rens_pures])
    clear hK4
    repeat' (first | (refine Y0 rfl fun K9 h9 => ?_; simp (disch := (first | (simp; done) | omega | (simp; omega))); (try simp (disch := (first | omega | (simp; omega))) only [X7, X8, X9, Xa, Xb, Xc]); ((first | (refine acall_dc n6 rfl (by assumption) (by simp) (fun r va' ha' hQ hr => ?_); obtain ⟨v, v1, v2, rfl⟩ := hQ; clear hr; rcases (show v = 0 ∨ v = 1 ∨ v = 2 ∨ v = 3 ∨ v = 4 ∨ v = 5 by omega) with rfl | rfl | rfl | rfl | rfl | rfl) | skip) <;> ((repeat (refine Yz ?_)); (first | refine h9 _ _ (Ys ?_)); clear h9 K9))) | refine Y6 ?_ | (refine Y8 fun K hK => ?_) | refine Y9 ?_ | (apply hK; clear hK K) | (refine Yb rfl (fun hcnd => ?_) (fun hcnd => ?_) <;> (try simp at hcnd) <;> (try contradiction) <;> (try (exfalso; omega))) | refine Yc ?_ | (refine Ye ?_; refine Yf ?_) | refine Yg ?_ | (simp only [X0, X1, X2, X3, X4, X5, X6, Nat.reduceBEq]) | (clear hK K; first | (apply hK; clear hK K) | (clear hK K; first | (apply hK; clear hK K) | (clear hK K; first | (apply hK; clear hK K) | (clear hK K; apply hK; clear hK K)))))
    · refine hJ4.le _ _ _ _ ?_ (main4 { x with has := true, sc := ⟨x.sc.names, oA == 1, o == 1, 0, q == 1⟩ } va' ⟨⟨hx.k.issuer, hx.k.names, hx.k.few⟩, by simp [RM]⟩ ha')
      exact Yr [some 0, some 1, some 2] (by simp [rowsOver, rowRen_live, rens_pures])
    · refine hJ4.le _ _ _ _ ?_ (main4 { x with has := true, sc := ⟨x.sc.names, oA == 1, o == 1, 0, q == 1⟩ } va' ⟨⟨hx.k.issuer, hx.k.names, hx.k.few⟩, by simp [RM]⟩ ha')
      exact Yr [some 0, some 1, some 2] (by simp [rowsOver, rowRen_live, rens_pures])
    · refine hJ4.le _ _ _ _ ?_ (main4 { x with has := true, sc := ⟨x.sc.names, oA == 1, o == 1, 2, q == 1⟩ } va' ⟨⟨hx.k.issuer, hx.k.names, hx.k.few⟩, by simp [RM]⟩ ha')
      exact Yr [some 0, some 1, some 2] (by simp [rowsOver, rowRen_live, rens_pures])
    · refine hJ4.le _ _ _ _ ?_ (main4 { x with has := true, sc := ⟨x.sc.names, oA == 1, o == 1, 508, q == 1⟩ } va' ⟨⟨hx.k.issuer, hx.k.names, hx.k.few⟩, by simp [RM]⟩ ha')
      exact Yr [some 0, some 1, some 2] (by simp [rowsOver, rowRen_live, rens_pures])
    · refine hJ4.le _ _ _ _ ?_ (main4 { x with has := true, sc := ⟨x.sc.names, oA == 1, o == 1, 510, q == 1⟩ } va' ⟨⟨hx.k.issuer, hx.k.names, hx.k.few⟩, by simp [RM]⟩ ha')
      exact Yr [some 0, some 1, some 2] (by simp [rowsOver, rowRen_live, rens_pures])
    · refine hJ4.le _ _ _ _ ?_ (main4 { x with has := true, sc := ⟨x.sc.names, oA == 1, o == 1, 128, q == 1⟩ } va' ⟨⟨hx.k.issuer, hx.k.names, hx.k.few⟩, by simp [RM]⟩ ha')
      exact Yr [some 0, some 1, some 2] (by simp [rowsOver, rowRen_live, rens_pures])
  · repeat' (first | (refine Y0 rfl fun K9 h9 => ?_; simp (disch := (first | (simp; done) | omega | (simp; omega))); (try simp (disch := (first | omega | (simp; omega))) only [X7, X8, X9, Xa, Xb, Xc]); ((repeat (refine Yz ?_)); (first | refine h9 _ _ (Ys ?_)); clear h9 K9)) | refine Y6 ?_ | (refine Y8 fun K hK => ?_) | refine Y9 ?_ | (apply hK; clear hK K) | (refine Yb rfl (fun hcnd => ?_) (fun hcnd => ?_) <;> (try simp at hcnd) <;> (try contradiction) <;> (try (exfalso; omega))) | refine Yc ?_ | (refine Ye ?_; refine Yf ?_) | refine Yg ?_ | (simp only [X0, X1, X2, X3, X4, X5, X6, Nat.reduceBEq]) | (clear hK K; first | (apply hK; clear hK K) | (clear hK K; first | (apply hK; clear hK K) | (clear hK K; first | (apply hK; clear hK K) | (clear hK K; apply hK; clear hK K)))))
    refine hJ3.le _ _ _ _ ?_ (main3 x wa' hx ha')
    exact Yr [some 0, some 1, some 2] (by simp [rowsOver, rowRen_live, rens_pures])

theorem list_t2 {l : List Int} (h : DkOk l) (x : Li) (b : Nat) (hx : WLi x) (hb : b ≤ l.length) : AWp Tryd.prog 1 (tlC 2 listB) (listE l) (((V.ref 0 0) :: V.junk :: (V.ref 1 0) :: (V.ref 2 0) :: V.junk :: V.junk :: V.junk :: V.junk :: V.junk :: V.junk :: V.junk :: V.junk :: V.junk :: V.junk :: V.junk :: V.junk :: V.junk :: V.junk :: V.junk :: V.junk :: V.junk :: V.junk :: V.junk :: V.junk :: V.junk :: V.junk :: V.junk :: V.junk :: V.junk :: V.junk :: V.junk :: V.junk :: V.junk :: V.junk :: V.junk :: V.junk :: V.junk :: V.junk :: V.junk :: V.junk :: V.junk :: V.junk :: V.junk :: V.junk :: V.junk :: V.junk :: V.junk :: V.junk :: V.junk :: V.junk :: V.junk :: V.junk :: V.junk :: V.junk :: V.junk :: V.junk :: V.junk :: V.junk :: V.junk :: V.junk :: V.junk :: V.junk :: V.junk :: V.junk :: V.junk :: V.junk :: V.junk :: V.junk :: V.junk :: V.junk :: V.junk :: V.junk :: V.junk :: V.junk :: V.junk :: V.junk :: V.junk :: V.junk :: V.junk :: V.junk :: V.junk :: V.junk :: [])) [.live (dk l b), .live [.str [], .str [], .sl 0 [], .int .i64 0, .int .i64 0, .int .i64 0, .int .i64 0, .str [], .bool false, .sl 0 [], .bool false, .bool false, .int .i64 0, .bool false, .sl 0 [], .sl 0 [], .str []], .live [.str x.raw, .str x.tbs, nmV x.issuer, .int .i64 x.this, .int .i64 x.next, .int .i64 x.number, .int .i64 x.base, .str x.ak, .bool x.has, gnsV x.sc.names, .bool x.sc.ou, .bool x.sc.oc, .int .i64 x.sc.reasons, .bool x.sc.ind, ptsV x.fresh, ensV x.entries, .str x.sig]] := by
  /- refine pcall_body Tryd.func20 rfl Tryd.call20 ?_ ?_
     rotate_left 1
     refine awp_slots (s' := ((.ref 0 0 : V) :: V.junk :: V.junk :: V.junk :: V.junk :: V.junk :: V.junk :: V.junk :: V.junk :: V.junk :: V.junk :: V.junk :: V.junk :: V.junk :: V.junk :: V.junk :: V.junk :: V.junk :: V.junk :: V.junk :: V.junk :: V.junk :: V.junk :: V.junk :: V.junk :: V.junk :: V.junk :: V.junk :: V.junk :: V.junk :: V.junk :: V.junk :: V.junk :: V.junk :: V.junk :: V.junk :: V.junk :: V.junk :: V.junk :: V.junk :: V.junk :: V.junk :: V.junk :: V.junk :: V.junk :: V.junk :: V.junk :: V.junk :: V.junk :: V.junk :: V.junk :: V.junk :: V.junk :: V.junk :: V.junk :: V.junk :: V.junk :: V.junk :: V.junk :: V.junk :: V.junk :: V.junk :: V.junk :: V.junk :: V.junk :: V.junk :: V.junk :: V.junk :: V.junk :: V.junk :: V.junk :: V.junk :: V.junk :: V.junk :: V.junk :: V.junk :: V.junk :: V.junk :: V.junk :: V.junk :: V.junk :: V.junk :: [])) rfl ?_ -/
  have n3 : DC Tryd.prog 18 [.int .i64 3] l (IntQ 3) := next_dc h 3 (by omega) (by omega)
  have n5 : DC Tryd.prog 18 [.int .i64 5] l (IntQ 5) := next_dc h 5 (by omega) (by omega)
  refine awp_seqJ fun K2 hK2 hJ2 => ?_
  have main2 : ∀ (x : Li) (b : Nat), WLi x → b ≤ l.length → K2 (((V.ref 0 0) :: V.junk :: (V.ref 1 0) :: (V.ref 2 0) :: V.junk :: V.junk :: V.junk :: V.junk :: V.junk :: V.junk :: V.junk :: V.junk :: V.junk :: V.junk :: V.junk :: V.junk :: V.junk :: V.junk :: V.junk :: V.junk :: V.junk :: V.junk :: V.junk :: V.junk :: V.junk :: V.junk :: V.junk :: V.junk :: V.junk :: V.junk :: V.junk :: V.junk :: V.junk :: V.junk :: V.junk :: V.junk :: V.junk :: V.junk :: V.junk :: V.junk :: V.junk :: V.junk :: V.junk :: V.junk :: V.junk :: V.junk :: V.junk :: V.junk :: V.junk :: V.junk :: V.junk :: V.junk :: V.junk :: V.junk :: V.junk :: V.junk :: V.junk :: V.junk :: V.junk :: V.junk :: V.junk :: V.junk :: V.junk :: V.junk :: V.junk :: V.junk :: V.junk :: V.junk :: V.junk :: V.junk :: V.junk :: V.junk :: V.junk :: V.junk :: V.junk :: V.junk :: V.junk :: V.junk :: V.junk :: V.junk :: V.junk :: V.junk :: [])) [.live (dk l b), .live [.str [], .str [], .sl 0 [], .int .i64 0, .int .i64 0, .int .i64 0, .int .i64 0, .str [], .bool false, .sl 0 [], .bool false, .bool false, .int .i64 0, .bool false, .sl 0 [], .sl 0 [], .str []], .live [.str x.raw, .str x.tbs, nmV x.issuer, .int .i64 x.this, .int .i64 x.next, .int .i64 x.number, .int .i64 x.base, .str x.ak, .bool x.has, gnsV x.sc.names, .bool x.sc.ou, .bool x.sc.oc, .int .i64 x.sc.reasons, .bool x.sc.ind, ptsV x.fresh, ensV x.entries, .str x.sig]] := fun x b hx hb => hK2 _ _ (list_t3 h x b hx hb)
  clear hK2
  refine awp_seq fun K hK => ?_
  repeat' (first | (refine Y0 rfl fun K9 h9 => ?_; simp (disch := (first | (simp; done) | omega | (simp; omega))); (try simp (disch := (first | omega | (simp; omega))) only [X7, X8, X9, Xa, Xb, Xc]); ((first | (refine acall_dc n3 rfl (by assumption) (by simp) (fun r wa' ha' hQ hr => ?_); obtain ⟨w, w1, w2, rfl⟩ := hQ; clear hr) | skip) <;> ((repeat (refine Yz ?_)); (first | refine h9 _ _ (Ys ?_)); clear h9 K9))) | refine Y6 ?_ | refine Y9 ?_ | (refine Yb rfl (fun hcnd => ?_) (fun hcnd => ?_) <;> (try simp at hcnd) <;> (try contradiction) <;> (try (exfalso; omega))) | refine Yc ?_ | (refine Ye ?_; refine Yf ?_) | refine Yg ?_ | (simp only [X0, X1, X2, X3, X4, X5, X6, Nat.reduceBEq]))
  refine hK _ _ ?_; clear hK K
  refine awp_cond rfl (fun hcnd => ?_) (fun hcnd => ?_)
  · repeat' (first | (refine Y0 rfl fun K9 h9 => ?_; simp (disch := (first | (simp; done) | omega | (simp; omega))); (try simp (disch := (first | omega | (simp; omega))) only [X7, X8, X9, Xa, Xb, Xc]); ((first | (refine acall_dc n5 rfl (by assumption) (by simp) (fun r ya' ha' hQ hr => ?_); obtain ⟨y, y1, y2, rfl⟩ := hQ; clear hr) | skip) <;> ((repeat (refine Yz ?_)); (first | refine h9 _ _ (Ys ?_)); clear h9 K9))) | refine Y6 ?_ | (refine Y8 fun K hK => ?_) | refine Y9 ?_ | (apply hK; clear hK K) | (refine Yb rfl (fun hcnd => ?_) (fun hcnd => ?_) <;> (try simp at hcnd) <;> (try contradiction) <;> (try (exfalso; omega))) | refine Yc ?_ | (refine Ye ?_; refine Yf ?_) | refine Yg ?_ | (simp only [X0, X1, X2, X3, X4, X5, X6, Nat.reduceBEq]) | (clear hK K; first | (apply hK; clear hK K) | (clear hK K; first | (apply hK; clear hK K) | (clear hK K; first | (apply hK; clear hK K) | (clear hK K; apply hK; clear hK K)))))
    refine hJ2.le _ _ _ _ ?_ (main2 { x with base := y } ya' ⟨⟨hx.k.issuer, hx.k.names, hx.k.few⟩, hx.r⟩ ha')
    exact Yr [some 0, some 1, some 2] (by simp [rowsOver, rowRen_live, rens_pures])
  · repeat' (first | (refine Y0 rfl fun K9 h9 => ?_; simp (disch := (first | (simp; done) | omega | (simp; omega))); (try simp (disch := (first | omega | (simp; omega))) only [X7, X8, X9, Xa, Xb, Xc]); ((repeat (refine Yz ?_)); (first | refine h9 _ _ (Ys ?_)); clear h9 K9)) | refine Y6 ?_ | (refine Y8 fun K hK => ?_) | refine Y9 ?_ | (apply hK; clear hK K) | (refine Yb rfl (fun hcnd => ?_) (fun hcnd => ?_) <;> (try simp at hcnd) <;> (try contradiction) <;> (try (exfalso; omega))) | refine Yc ?_ | (refine Ye ?_; refine Yf ?_) | refine Yg ?_ | (simp only [X0, X1, X2, X3, X4, X5, X6, Nat.reduceBEq]) | (clear hK K; first | (apply hK; clear hK K) | (clear hK K; first | (apply hK; clear hK K) | (clear hK K; first | (apply hK; clear hK K) | (clear hK K; apply hK; clear hK K)))))
    refine hJ2.le _ _ _ _ ?_ (main2 x wa' hx ha')
    exact Yr [some 0, some 1, some 2] (by simp [rowsOver, rowRen_live, rens_pures])

theorem list_dc {l : List Int} (h : DkOk l) : DC Tryd.prog 20 [] l (fun r => ∃ x : Li, WLi x ∧ r = .agg x.c) := by
  intro a ha
  have n3 : DC Tryd.prog 18 [.int .i64 3] l (IntQ 3) := next_dc h 3 (by omega) (by omega)
  have n4 : DC Tryd.prog 18 [.int .i64 4] l (IntQ 4) := next_dc h 4 (by omega) (by omega)
  have n5 : DC Tryd.prog 18 [.int .i64 5] l (IntQ 5) := next_dc h 5 (by omega) (by omega)
  have a0 : PCall Tryd.prog 17 [.int .i64 0] (.agg [nmV (authN 0)]) := auth_call 0 (by omega)
  have a8 : PCall Tryd.prog 17 [.int .i64 8] (.agg [nmV (authN 8)]) := auth_call 8 (by omega)
  have a2 : PCall Tryd.prog 17 [.int .i64 2] (.agg [nmV (authN 2)]) := auth_call 2 (by omega)
  have a4 : PCall Tryd.prog 17 [.int .i64 4] (.agg [nmV (authN 4)]) := auth_call 4 (by omega)
  refine eg_body Tryd.func20 rfl Tryd.call20 ?_
  refine awp_slots (s' := ((.ref 0 0 : V) :: V.junk :: V.junk :: V.junk :: V.junk :: V.junk :: V.junk :: V.junk :: V.junk :: V.junk :: V.junk :: V.junk :: V.junk :: V.junk :: V.junk :: V.junk :: V.junk :: V.junk :: V.junk :: V.junk :: V.junk :: V.junk :: V.junk :: V.junk :: V.junk :: V.junk :: V.junk :: V.junk :: V.junk :: V.junk :: V.junk :: V.junk :: V.junk :: V.junk :: V.junk :: V.junk :: V.junk :: V.junk :: V.junk :: V.junk :: V.junk :: V.junk :: V.junk :: V.junk :: V.junk :: V.junk :: V.junk :: V.junk :: V.junk :: V.junk :: V.junk :: V.junk :: V.junk :: V.junk :: V.junk :: V.junk :: V.junk :: V.junk :: V.junk :: V.junk :: V.junk :: V.junk :: V.junk :: V.junk :: V.junk :: V.junk :: V.junk :: V.junk :: V.junk :: V.junk :: V.junk :: V.junk :: V.junk :: V.junk :: V.junk :: V.junk :: V.junk :: V.junk :: V.junk :: V.junk :: V.junk :: V.junk :: [])) rfl ?_
  refine awp_rows (rows' := [.live (dk l a)]) rfl ?_
  refine awp_seq fun K hK => ?_
  repeat' (first | (refine Y0 rfl fun K9 h9 => ?_; simp (disch := (first | (simp; done) | omega | (simp; omega))); (try simp (disch := (first | omega | (simp; omega))) only [X7, X8, X9, Xa, Xb, Xc]); ((repeat (refine Yz ?_)); (first | refine h9 _ _ (Ys ?_)); clear h9 K9)) | refine Y6 ?_ | refine Y9 ?_ | (refine Yb rfl (fun hcnd => ?_) (fun hcnd => ?_) <;> (try simp at hcnd) <;> (try contradiction) <;> (try (exfalso; omega))) | refine Yc ?_ | (refine Ye ?_; refine Yf ?_) | refine Yg ?_ | (simp only [X0, X1, X2, X3, X4, X5, X6, Nat.reduceBEq]))
  refine hK _ _ ?_; clear hK K
  refine awp_seqJ fun K1 hK1 hJ1 => ?_
  have main1 : ∀ (x : Li) (b : Nat), WLi x → b ≤ l.length → K1 (((V.ref 0 0) :: V.junk :: (V.ref 1 0) :: (V.ref 2 0) :: V.junk :: V.junk :: V.junk :: V.junk :: V.junk :: V.junk :: V.junk :: V.junk :: V.junk :: V.junk :: V.junk :: V.junk :: V.junk :: V.junk :: V.junk :: V.junk :: V.junk :: V.junk :: V.junk :: V.junk :: V.junk :: V.junk :: V.junk :: V.junk :: V.junk :: V.junk :: V.junk :: V.junk :: V.junk :: V.junk :: V.junk :: V.junk :: V.junk :: V.junk :: V.junk :: V.junk :: V.junk :: V.junk :: V.junk :: V.junk :: V.junk :: V.junk :: V.junk :: V.junk :: V.junk :: V.junk :: V.junk :: V.junk :: V.junk :: V.junk :: V.junk :: V.junk :: V.junk :: V.junk :: V.junk :: V.junk :: V.junk :: V.junk :: V.junk :: V.junk :: V.junk :: V.junk :: V.junk :: V.junk :: V.junk :: V.junk :: V.junk :: V.junk :: V.junk :: V.junk :: V.junk :: V.junk :: V.junk :: V.junk :: V.junk :: V.junk :: V.junk :: V.junk :: [])) [.live (dk l b), .live [.str [], .str [], .sl 0 [], .int .i64 0, .int .i64 0, .int .i64 0, .int .i64 0, .str [], .bool false, .sl 0 [], .bool false, .bool false, .int .i64 0, .bool false, .sl 0 [], .sl 0 [], .str []], .live [.str x.raw, .str x.tbs, nmV x.issuer, .int .i64 x.this, .int .i64 x.next, .int .i64 x.number, .int .i64 x.base, .str x.ak, .bool x.has, gnsV x.sc.names, .bool x.sc.ou, .bool x.sc.oc, .int .i64 x.sc.reasons, .bool x.sc.ind, ptsV x.fresh, ensV x.entries, .str x.sig]] := fun x b hx hb => hK1 _ _ (list_t2 h x b hx hb)
  clear hK1
  repeat' (first | (refine Y0 rfl fun K9 h9 => ?_; simp (disch := (first | (simp; done) | omega | (simp; omega))); (try simp (disch := (first | omega | (simp; omega))) only [X7, X8, X9, Xa, Xb, Xc]); ((first | (refine acall_dc n4 rfl (by assumption) (by simp) (fun r xa' ha' hQ hr => ?_); obtain ⟨x, x1, x2, rfl⟩ := hQ; clear hr; rcases (show x = 0 ∨ x = 1 ∨ x = 2 ∨ x = 3 by omega) with rfl | rfl | rfl | rfl) | (refine acall_dc n5 rfl (by assumption) (by simp) (fun r ya' ha' hQ hr => ?_); obtain ⟨y, y1, y2, rfl⟩ := hQ; clear hr) | (refine acall_dc n3 rfl (by assumption) (by simp) (fun r za' ha' hQ hr => ?_); obtain ⟨z, z1, z2, rfl⟩ := hQ; clear hr; rcases (show z = 0 ∨ z = 1 ∨ z = 2 by omega) with rfl | rfl | rfl) | refine acall_pure (a0) (by simp) ?_ | refine acall_pure (a8) (by simp) ?_ | refine acall_pure (a2) (by simp) ?_ | refine acall_pure (a4) (by simp) ?_ | skip) <;> ((repeat (refine Yz ?_)); (first | refine h9 _ _ (Ys ?_)); clear h9 K9))) | refine Y6 ?_ | (refine Y8 fun K hK => ?_) | refine Y9 ?_ | (apply hK; clear hK K) | (refine Yb rfl (fun hcnd => ?_) (fun hcnd => ?_) <;> (try simp at hcnd) <;> (try contradiction) <;> (try (exfalso; omega))) | refine Yc ?_ | (refine Ye ?_; refine Yf ?_) | refine Yg ?_ | (simp only [X0, X1, X2, X3, X4, X5, X6, Nat.reduceBEq]) | (clear hK K; first | (apply hK; clear hK K) | (clear hK K; first | (apply hK; clear hK K) | (clear hK K; first | (apply hK; clear hK K) | (clear hK K; apply hK; clear hK K)))))
  · refine hJ1.nz (by simp only [List.map_cons, List.map_nil, nzRow, nz, dk_nz]; rfl) ?_
    refine hJ1.le _ _ _ _ ?_ (main1 (l0 (authN 0) y []) za' (l0_w (authN_w _)) ha')
    exact Yr [some 0, some 1, some 4] (by simp [rowsOver, rowRen_live, rens_pures, gnsV, ptsV, ensV, nmV, l0])
  · refine hJ1.nz (by simp only [List.map_cons, List.map_nil, nzRow, nz, dk_nz]; rfl) ?_
    refine hJ1.le _ _ _ _ ?_ (main1 (l0 (authN 0) y []) za' (l0_w (authN_w _)) ha')
    exact Yr [some 0, some 1, some 4] (by simp [rowsOver, rowRen_live, rens_pures, gnsV, ptsV, ensV, nmV, l0])
  · refine hJ1.nz (by simp only [List.map_cons, List.map_nil, nzRow, nz, dk_nz]; rfl) ?_
    refine hJ1.le _ _ _ _ ?_ (main1 (l0 (authN 0) y [107]) za' (l0_w (authN_w _)) ha')
    exact Yr [some 0, some 1, some 4] (by simp [rowsOver, rowRen_live, rens_pures, gnsV, ptsV, ensV, nmV, l0])
  · refine hJ1.nz (by simp only [List.map_cons, List.map_nil, nzRow, nz, dk_nz]; rfl) ?_
    refine hJ1.le _ _ _ _ ?_ (main1 (l0 (authN 8) y []) za' (l0_w (authN_w _)) ha')
    exact Yr [some 0, some 1, some 4] (by simp [rowsOver, rowRen_live, rens_pures, gnsV, ptsV, ensV, nmV, l0])
  · refine hJ1.nz (by simp only [List.map_cons, List.map_nil, nzRow, nz, dk_nz]; rfl) ?_
    refine hJ1.le _ _ _ _ ?_ (main1 (l0 (authN 8) y []) za' (l0_w (authN_w _)) ha')
    exact Yr [some 0, some 1, some 4] (by simp [rowsOver, rowRen_live, rens_pures, gnsV, ptsV, ensV, nmV, l0])
  · refine hJ1.nz (by simp only [List.map_cons, List.map_nil, nzRow, nz, dk_nz]; rfl) ?_
    refine hJ1.le _ _ _ _ ?_ (main1 (l0 (authN 8) y [107]) za' (l0_w (authN_w _)) ha')
    exact Yr [some 0, some 1, some 4] (by simp [rowsOver, rowRen_live, rens_pures, gnsV, ptsV, ensV, nmV, l0])
  · refine hJ1.nz (by simp only [List.map_cons, List.map_nil, nzRow, nz, dk_nz]; rfl) ?_
    refine hJ1.le _ _ _ _ ?_ (main1 (l0 (authN 2) y []) za' (l0_w (authN_w _)) ha')
    exact Yr [some 0, some 1, some 4] (by simp [rowsOver, rowRen_live, rens_pures, gnsV, ptsV, ensV, nmV, l0])
  · refine hJ1.nz (by simp only [List.map_cons, List.map_nil, nzRow, nz, dk_nz]; rfl) ?_
    refine hJ1.le _ _ _ _ ?_ (main1 (l0 (authN 2) y []) za' (l0_w (authN_w _)) ha')
    exact Yr [some 0, some 1, some 4] (by simp [rowsOver, rowRen_live, rens_pures, gnsV, ptsV, ensV, nmV, l0])
  · refine hJ1.nz (by simp only [List.map_cons, List.map_nil, nzRow, nz, dk_nz]; rfl) ?_
    refine hJ1.le _ _ _ _ ?_ (main1 (l0 (authN 2) y [107]) za' (l0_w (authN_w _)) ha')
    exact Yr [some 0, some 1, some 4] (by simp [rowsOver, rowRen_live, rens_pures, gnsV, ptsV, ensV, nmV, l0])
  · refine hJ1.nz (by simp only [List.map_cons, List.map_nil, nzRow, nz, dk_nz]; rfl) ?_
    refine hJ1.le _ _ _ _ ?_ (main1 (l0 (authN 4) y []) za' (l0_w (authN_w _)) ha')
    exact Yr [some 0, some 1, some 4] (by simp [rowsOver, rowRen_live, rens_pures, gnsV, ptsV, ensV, nmV, l0])
  · refine hJ1.nz (by simp only [List.map_cons, List.map_nil, nzRow, nz, dk_nz]; rfl) ?_
    refine hJ1.le _ _ _ _ ?_ (main1 (l0 (authN 4) y []) za' (l0_w (authN_w _)) ha')
    exact Yr [some 0, some 1, some 4] (by simp [rowsOver, rowRen_live, rens_pures, gnsV, ptsV, ensV, nmV, l0])
  · refine hJ1.nz (by simp only [List.map_cons, List.map_nil, nzRow, nz, dk_nz]; rfl) ?_
    refine hJ1.le _ _ _ _ ?_ (main1 (l0 (authN 4) y [107]) za' (l0_w (authN_w _)) ha')
    exact Yr [some 0, some 1, some 4] (by simp [rowsOver, rowRen_live, rens_pures, gnsV, ptsV, ensV, nmV, l0])
end Go.Proofs.YtbdfghlkkdkpgaaDoor

