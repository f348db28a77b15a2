/-
  STEP: the fields of a certificate from a deck.
  Conditions: none.
-/
import Derived.Test.YtcfmanhblonjeaaGreatDoorGe
import Derived.Test.YtcfmanhblonjeaaGreatDoorGf
import Derived.Test.YtcfmanhblonjeaaGreatDoorGg
import Derived.Test.YtcfmanhblonjeaaGreatDoorGh
import Derived.Test.YtcfmanhblonjeaaGreatDoorGj
import Derived.Test.YtcfmanhblonjeaaGreatDoorGl
import Derived.Test.YtcfmanhblonjeaaGreatDoorGk
import Derived.Test.YtcfmanhblonjeaaGreatDoorQ16
import Derived.Test.YtcfmanhblonjeaaGreatDoorQ17
import Derived.Test.YtcfmanhblonjeaaGreatDoorQ18
import Derived.Test.YtcfmanhblonjeaaGreatDoorQ19
import Derived.Test.YtcfmanhblonjeaaGreatDoorQ25
import Derived.Test.YtcfmanhblonjeaaGreatDoorQ26
import Derived.Test.YtcfmanhblonjeaaGreatDoorQ27
import Derived.Test.YtcfmanhblonjeaaGreatDoorQ28
import Derived.Test.YtcfmanhblonjeaaGreatDoorTab
import Derived.Test.YtcfmanhblonjeaaGreatDoorGd
import Derived.Test.YtcfmanhblonjeaaGreatDoorGi
import Derived.Test.YtcfmanhblonjeaaGreatDoorVs33
import Derived.Test.YtcfmanhblonjeaaGreatDoorVs34
import Derived.Test.YtcfmanhblonjeaaGreatDoorVs35
import Derived.Test.YtcfmanhblonjeaaGreatDoorVs36
set_option linter.all false
namespace Go.Stp
open Go.VS Go.Proofs.YtcfmanhblonjeaaGreatDoor
structure WCe (f t : Int) (c : Ce) : Prop where
  issuer : c.issuer = authN (namedN f.toNat)
  subject : c.subject = authN (namedN t.toNat)
  key : c.key = pubK t.toNat
  serial : 1 ≤ c.serial ∧ c.serial ≤ 5
  nb : 0 ≤ c.nb ∧ c.nb ≤ 3000
  na : 0 ≤ c.na ∧ c.na ≤ 3000
  raw : c.raw = [] ∧ c.tbs = [] ∧ c.sig = []
  info : WIn c.info
theorem ares_cell {P : Program} {s : List V} {rows : List Row} {rs : List ResultVar} {k : V → Prop} {a : Nat} {t : TypeId} {cs : List V} (id off n : Nat) (hrs : rs = [.cell a t]) (ha : sget s a = .ref id off) (hrow : rows[id]? = some (.live cs)) (hne : cs ≠ []) (hu : uagg P t = some true) (hn : usz P t = some n) (hle : off + n ≤ cs.length) (h : k (.agg ((cs.drop off).take n))) : ares P s rows rs k := by
  subst hrs
  simp only [ares, aresL, ares1, ha, aload, acells, hu]
  exact ⟨cs, hrow, hne, n, hn, hle, h⟩
def tmQ (r : V) : Prop := ∃ t1 t2 : Int, (0 ≤ t1 ∧ t1 ≤ 3000) ∧ (0 ≤ t2 ∧ t2 ≤ 3000) ∧ r = .tup [.int .i64 t1, .int .i64 t2]
end Go.Stp
namespace Go.Proofs.YtcfmanhblonjeaaGreatDoor
open Go.VS Go.Stp
set_option linter.all false
set_option maxRecDepth 100000
set_option maxHeartbeats 16000000
attribute [local irreducible] arun arunD arunU AWp aend
theorem public_i (x : Int) (h0 : 0 ≤ x) (h : x < 8) : PCall Tryz.prog 22 [.int .i64 x] (.agg [.int .i64 (pubK x.toNat).h, .str (pubK x.toNat).id, .str (pubK x.toNat).root]) := by
  have := public_call x.toNat (by omega)
  rwa [show ((x.toNat : Nat) : Int) = x by omega] at this
theorem times_dc {l : List Int} (h : DkOk l) : DC Tryz.prog 24 [] l tmQ := by
  intro a ha
  have n14 : DC Tryz.prog 7 [.int .i64 14] l (IntQ 14) := next_dc h 14 (by omega) (by omega)
  have n3 : DC Tryz.prog 7 [.int .i64 3] l (IntQ 3) := next_dc h 3 (by omega) (by omega)
  refine eg_body Tryz.func24 rfl Tryz.call24 ?_
  refine awp_slots (s' := (.ref 0 0 : V) :: zJ 15) rfl ?_; dsimp only [zJ]
  refine awp_rows (rows' := [.live (dk l a)]) rfl ?_
  repeat' (first | (refine Y0 rfl fun K9 h9 => ?_; simp (disch := first | exact dd | fail); (try simp (disch := first | exact de | fail) only [X7]); ((first | (refine acall_dc n14 rfl (by assumption) (by simp) (fun r a' ha' hQ hr => ?_); obtain ⟨x, hx1, hx2, rfl⟩ := hQ; clear hr) | (refine acall_dc n3 rfl (by assumption) (by simp) (fun r a' ha' hQ hr => ?_); obtain ⟨x, hx1, hx2, rfl⟩ := hQ; clear hr) | skip) <;> ((repeat (refine Yz ?_)); (first | refine h9 _ _ (Ys ?_)); clear h9 K9))) | refine Y6 ?_ | (refine Y8 fun K hK => ?_) | refine Y9 ?_ | (apply hK; clear hK K) | refine Ya ?_ | (refine Yb rfl ?_ ?_ <;> intro hcnd <;> (try simp at hcnd) <;> try exact dc) | refine Yc ?_ | (refine Ye ?_; refine Yf ?_) | refine Yg ?_ | (simp only [X0, Nat.reduceBEq]) | clear hK K)
  · refine ⟨.tup [.int .i64 2001, .int .i64 2005], [dk l a'], ⟨a', ha', ⟨2001, 2005, by omega, by omega, rfl⟩, rfl⟩, by simp, rfl, by simp, ?_⟩
    exact Le.mk [some 0] (by simp [sget]) (rowsRen_of (by simp) (by simp [rowsOver, rowRen_live, rens_pures])) (by simp)
  · refine ⟨.tup [.int .i64 5, .int .i64 1999], [dk l a'], ⟨a', ha', ⟨5, 1999, by omega, by omega, rfl⟩, rfl⟩, by simp, rfl, by simp, ?_⟩
    exact Le.mk [some 0] (by simp [sget]) (rowsRen_of (by simp) (by simp [rowsOver, rowRen_live, rens_pures])) (by simp)
  · rename_i _ _ x1 _ _
    refine ⟨.tup [.int .i64 (2000 - x1), .int .i64 (2000 + x)], [dk l a'], ⟨a', ha', ⟨2000 - x1, 2000 + x, by omega, by omega, rfl⟩, rfl⟩, by simp, rfl, by simp, ?_⟩
    exact Le.mk [some 0] (by simp [sget]) (rowsRen_of (by simp) (by simp [rowsOver, rowRen_live, rens_pures])) (by simp)
theorem certf_dc {l : List Int} (h : DkOk l) (f t : Int) (hf0 : 0 ≤ f) (hf : f < 8) (ht0 : 0 ≤ t) (ht : t < 8) (ca : Bool) : DC Tryz.prog 6 [.int .i64 f, .int .i64 t, .bool ca] l fun r => ∃ c, WCe f t c ∧ r = .agg c.c := by
  intro a ha
  have n5 : DC Tryz.prog 7 [.int .i64 5] l (IntQ 5) := next_dc h 5 (by omega) (by omega)
  have tms := times_dc h
  have nn : PCall Tryz.prog 23 [] (.agg [.bool false, .bool false, .int .i64 (-1), .int .i64 0, strV [], strV [], mpsV [], .int .i64 (-1), .int .i64 (-1), .int .i64 (-1), gnsV [], .bool false, gnsV [], gnsV [], .str [], .str [], ptsV [], ptsV [], exsV []]) := none_call
  have pub := public_i t ht0 ht
  have nm1 := named_i f hf0 hf
  have nm2 := named_i t ht0 ht
  have au1 := auth_call (namedN f.toNat) (namedN_lt _ (by omega))
  have au2 := auth_call (namedN t.toNat) (namedN_lt _ (by omega))
  have wi0 : WIn { noneI with basic := ca, ca := ca } := ⟨by simp [noneI], ⟨⟨by simp [noneI], fun x h => by simp [noneI] at h⟩, ⟨by simp [noneI], fun x h => by simp [noneI] at h⟩⟩, by simp [noneI], by simp [noneI], by simp [noneI], by simp [noneI], by simp [noneI], by simp [noneI], by simp [noneI], by simp [noneI], by simp [noneI], by simp [noneI]⟩
  refine eg_body Tryz.func6 rfl Tryz.call6 ?_
  refine awp_slots (s' := (.ref 0 0 : V) :: (.int .i64 f : V) :: (.int .i64 t : V) :: (.bool ca : V) :: zJ 55) rfl ?_; dsimp only [zJ]
  refine awp_rows (rows' := [.live (dk l a)]) rfl ?_
  repeat' (first | (refine Y0 rfl fun K9 h9 => ?_; simp (disch := first | exact dd | fail); (try simp (disch := first | exact de | fail) only [X7]); ((first | (refine acall_dc n5 rfl (by assumption) (by simp) (fun r a' ha' hQ hr => ?_); obtain ⟨x, hx1, hx2, rfl⟩ := hQ; clear hr) | refine Ap nm1 ?_ | refine Ap nm2 ?_ | refine Ap au1 ?_ | refine Ap au2 ?_ | refine Ap pub ?_ | refine Ap nn ?_ | (refine acall_dc tms rfl (by assumption) (by simp) (fun r a' ha' hQ hr => ?_); obtain ⟨t1, t2, ht1, ht2, rfl⟩ := hQ; clear hr) | skip) <;> ((repeat (refine Yz ?_)); (first | refine h9 _ _ (Ys ?_)); clear h9 K9))) | refine Y6 ?_ | (refine Y8 fun K hK => ?_) | refine Y9 ?_ | (apply hK; clear hK K) | refine Ya ?_ | (refine Yb rfl ?_ ?_ <;> intro hcnd <;> (try simp at hcnd) <;> try exact dc) | refine Yc ?_ | (refine Yd ?_; simp only [X0, Nat.reduceBEq]) | (refine Ye ?_; refine Yf ?_) | refine Yg ?_ | (simp only [X0, Nat.reduceBEq]) | clear hK K)
  rename_i a1 ha1 sr hs1 hs2 a2 ha2
  obtain ⟨c0, hc0⟩ : ∃ c0 : Ce, c0 = ⟨[], [], 1 + sr, authN (namedN f.toNat), authN (namedN t.toNat), t1, t2, pubK t.toNat, { noneI with basic := ca, ca := ca }, []⟩ := ⟨_, rfl⟩
  have hw0 : ∀ i, WIn i → WCe f t { c0 with info := i } := fun i hi => by subst hc0; exact ⟨rfl, rfl, rfl, by dsimp only; omega, ht1, ht2, ⟨rfl, rfl, rfl⟩, hi⟩
  have hrow : ({ c0 with info := { noneI with basic := ca, ca := ca } } : Ce).c = [.str [], .str [], .int .i64 (1 + sr), nmV (authN (namedN f.toNat)), nmV (authN (namedN t.toNat)), .int .i64 t1, .int .i64 t2, .int .i64 (pubK t.toNat).h, .str (pubK t.toNat).id, .str (pubK t.toNat).root, .bool ca, .bool ca, .int .i64 (-1), .int .i64 0, strV [], strV [], mpsV [], .int .i64 (-1), .int .i64 (-1), .int .i64 (-1), gnsV [], .bool false, gnsV [], gnsV [], .str [], .str [], ptsV [], ptsV [], exsV [], .str []] := by subst hc0; rfl
  clear nn pub nm1 nm2 au1 au2 tms n5 hc0
  refine awp_loopU (α := Nat × In × Nat) (fun q => (none :: zS 3 (zN 7 (some (V.int .i64 (x - q.1)) :: zS 47 [])))) (fun q => [.live (dk l q.2.2), .live [.str [], .str [], .int .i64 0, .nils, .nils, .int .i64 0, .int .i64 0, .int .i64 0, .str [], .str [], .bool false, .bool false, .int .i64 0, .int .i64 0, .nils, .nils, .nils, .int .i64 0, .int .i64 0, .int .i64 0, .nils, .bool false, .nils, .nils, .str [], .str [], .nils, .nils, .nils, .str []], .live ({ c0 with info := q.2.1 } : Ce).c]) (fun q => (q.1 : Int) ≤ x ∧ WIn q.2.1 ∧ q.2.2 ≤ l.length) (fun q => 5 - q.1) (0, { noneI with basic := ca, ca := ca }, a') ⟨by omega, wi0, ha'⟩ ?_ ?_
  · dsimp only [ups, zN, zS]
    dsimp only at hrow
    rw [hrow]
    exact Yr [some 0, some 1, some 2] (by simp [rowsOver, rowRen_live, rens_pures])
  clear hrow
  rintro ⟨i, inf, b⟩ ⟨hi, hw, hb⟩ KL hL
  dsimp only at hi hw hb
  dsimp only [ups, zN, zS]
  rcases (show (i : Int) < x ∨ i = x by omega) with hi | hi
  · have hex := extend_eg h b hb { c0 with info := inf } hw
    have hpc := Ce.c_pures { c0 with info := inf }
    have hcc : ∀ i : In, ({ ({ c0 with info := inf } : Ce) with info := i } : Ce) = { c0 with info := i } := fun _ => rfl
    simp only [hcc] at hex
    generalize ({ c0 with info := inf } : Ce).c = row at *
    repeat' (first | (refine Y0 rfl fun K9 h9 => ?_; simp (disch := first | exact dd | fail); (try simp (disch := first | exact de | fail) only [X7]); ((first | (refine acall_eg [0, 2] hex (by simp) (by simp [rowsOver, rowRen_live, rens_pures, rens_pures hpc]) (by simp) rfl (fun r rows' hR hr hl hps => ?_); obtain ⟨a', inf2, ha', hw2, rfl⟩ := hR; clear hr hl hps) | skip) <;> ((repeat (refine Yz ?_)); (first | refine h9 _ _ (Ys ?_)); clear h9 K9))) | refine Y6 ?_ | (refine Y8 fun K hK => ?_) | refine Y9 ?_ | (apply hK; clear hK K) | refine Ya ?_ | (refine Yb rfl ?_ ?_ <;> intro hcnd <;> (try simp at hcnd) <;> try exact dc) | refine Yc ?_ | (refine Yd ?_; simp only [X0, Nat.reduceBEq]) | (refine Ye ?_; refine Yf ?_) | refine Yg ?_ | (simp only [X0, Nat.reduceBEq]) | clear hK K)
    have hpc2 := Ce.c_pures { c0 with info := inf2 }
    refine hL (i + 1, inf2, a') _ _ ⟨by dsimp only; omega, hw2, ha'⟩ (by dsimp only; omega) ?_
    exact Yr [some 0, some 1, some 2] (by simp [rowsOver, rowRen_live, rens_pures, rens_pures hpc2])
  · have hC1 := hw0 inf hw
    have hC2 := hw0 { inf with plen := -1 } ⟨hw.maps, hw.cons, hw.names, hw.rexp, hw.imap, hw.iany, by simp, hw.pts, hw.points, hw.pol, hw.unk, hw.pur⟩
    have hp1 := Ce.c_pures { c0 with info := inf }
    have hp2 := Ce.c_pures { c0 with info := { inf with plen := -1 } }
    have e2 := Ce.c.eq_1 { c0 with info := { inf with plen := -1 } }
    have e1 := Ce.c.eq_1 { c0 with info := inf }
    dsimp only at e1 e2
    rw [e1]
    clear hw0 hL
    cases hca : inf.ca
    · repeat' (first | (refine Y0 rfl fun K9 h9 => ?_; simp (disch := first | exact dd | fail) [hca]; (try simp (disch := first | exact de | fail) only [X7]); ((repeat (refine Yz ?_)); (first | refine h9 _ _ (Ys ?_)); clear h9 K9)) | refine Y6 ?_ | (refine Y8 fun K hK => ?_) | refine Y9 ?_ | (apply hK; clear hK K) | refine Ya ?_ | (refine Yb rfl ?_ ?_ <;> intro hcnd <;> (try simp at hcnd) <;> try exact dc) | refine Yc ?_ | (refine Yd ?_; simp only [X0, Nat.reduceBEq]) | (refine Ye ?_; refine Yf ?_) | refine Yg ?_ | (simp only [X0, Nat.reduceBEq]) | clear hK K)
      refine ares_cell 1 0 30 rfl rfl rfl (by simp) (by kernel_rfl) (by kernel_rfl) (by simp) ?_
      refine ⟨.agg ({ c0 with info := { inf with plen := -1 } } : Ce).c, [dk l b], ⟨b, hb, ⟨_, hC2, rfl⟩, rfl⟩, by simp, rfl, by simp, ?_⟩
      rw [e2]
      exact Le.mk [some 0] (by simp [sget, hca]) (rowsRen_of (by simp) (by simp [rowsOver, rowRen_live, rens_pures])) (by simp)
    · repeat' (first | (refine Y0 rfl fun K9 h9 => ?_; simp (disch := first | exact dd | fail) [hca]; (try simp (disch := first | exact de | fail) only [X7]); ((repeat (refine Yz ?_)); (first | refine h9 _ _ (Ys ?_)); clear h9 K9)) | refine Y6 ?_ | (refine Y8 fun K hK => ?_) | refine Y9 ?_ | (apply hK; clear hK K) | refine Ya ?_ | (refine Yb rfl ?_ ?_ <;> intro hcnd <;> (try simp at hcnd) <;> try exact dc) | refine Yc ?_ | (refine Yd ?_; simp only [X0, Nat.reduceBEq]) | (refine Ye ?_; refine Yf ?_) | refine Yg ?_ | (simp only [X0, Nat.reduceBEq]) | clear hK K)
      refine ares_cell 1 0 30 rfl rfl rfl (by simp) (by kernel_rfl) (by kernel_rfl) (by simp) ?_
      refine ⟨.agg ({ c0 with info := inf } : Ce).c, [dk l b], ⟨b, hb, ⟨_, hC1, rfl⟩, rfl⟩, by simp, rfl, by simp, ?_⟩
      rw [e1]
      exact Le.mk [some 0] (by simp [sget, hca]) (rowsRen_of (by simp) (by simp [rowsOver, rowRen_live, rens_pures])) (by simp)
end Go.Proofs.YtcfmanhblonjeaaGreatDoor

