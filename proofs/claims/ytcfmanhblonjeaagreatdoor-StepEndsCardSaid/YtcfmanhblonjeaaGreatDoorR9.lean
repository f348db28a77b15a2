/-
  STEP: StepEnds.
  Conditions: none.
-/
import Derived.Test.YtcfmanhblonjeaaGreatDoorGe
import Derived.Test.YtcfmanhblonjeaaGreatDoorGf
import Derived.Test.YtcfmanhblonjeaaGreatDoorGp
import Derived.Test.YtcfmanhblonjeaaGreatDoorGq
import Derived.Test.YtcfmanhblonjeaaGreatDoorGg
import Derived.Test.YtcfmanhblonjeaaGreatDoorGh
import Derived.Test.YtcfmanhblonjeaaGreatDoorP1
import Derived.Test.YtcfmanhblonjeaaGreatDoorP2
import Derived.Test.YtcfmanhblonjeaaGreatDoorP3
import Derived.Test.YtcfmanhblonjeaaGreatDoorGj
import Derived.Test.YtcfmanhblonjeaaGreatDoorGl
import Derived.Test.YtcfmanhblonjeaaGreatDoorQ6
import Derived.Test.YtcfmanhblonjeaaGreatDoorQ7
import Derived.Test.YtcfmanhblonjeaaGreatDoorGk
import Derived.Test.YtcfmanhblonjeaaGreatDoorQ16
import Derived.Test.YtcfmanhblonjeaaGreatDoorQ17
import Derived.Test.YtcfmanhblonjeaaGreatDoorQ18
import Derived.Test.YtcfmanhblonjeaaGreatDoorQ19
import Derived.Test.YtcfmanhblonjeaaGreatDoorQ20
import Derived.Test.YtcfmanhblonjeaaGreatDoorQ22
import Derived.Test.YtcfmanhblonjeaaGreatDoorQ25
import Derived.Test.YtcfmanhblonjeaaGreatDoorQ26
import Derived.Test.YtcfmanhblonjeaaGreatDoorQ27
import Derived.Test.YtcfmanhblonjeaaGreatDoorQ28
import Derived.Test.YtcfmanhblonjeaaGreatDoorQ29
import Derived.Test.YtcfmanhblonjeaaGreatDoorQ31
import Derived.Test.YtcfmanhblonjeaaGreatDoorQ34
import Derived.Test.YtcfmanhblonjeaaGreatDoorQ36
import Derived.Test.YtcfmanhblonjeaaGreatDoorQ40
import Derived.Test.YtcfmanhblonjeaaGreatDoorR1
import Derived.Test.YtcfmanhblonjeaaGreatDoorR4
import Derived.Test.YtcfmanhblonjeaaGreatDoorR5
import Derived.Test.YtcfmanhblonjeaaGreatDoorR6
import Derived.Test.YtcfmanhblonjeaaGreatDoorR7
import Derived.Test.YtcfmanhblonjeaaGreatDoorR8
import Derived.Test.YtcfmanhblonjeaaGreatDoorR10
import Derived.Test.YtcfmanhblonjeaaGreatDoorR11
import Derived.Test.YtcfmanhblonjeaaGreatDoorShelf
import Derived.Test.YtcfmanhblonjeaaGreatDoorTab
import Derived.Test.YtcfmanhblonjeaaGreatDoorGd
import Derived.Test.YtcfmanhblonjeaaGreatDoorGi
import Derived.Test.YtcfmanhblonjeaaGreatDoorVs30
import Derived.Test.YtcfmanhblonjeaaGreatDoorVs33
import Derived.Test.YtcfmanhblonjeaaGreatDoorVs34
import Derived.Test.YtcfmanhblonjeaaGreatDoorVs35
import Derived.Test.YtcfmanhblonjeaaGreatDoorVs36
import Derived.Test.YtcfmanhblonjeaaGreatDoorVs39
set_option linter.all false
namespace Go.Stp
open Go.VS
def SN (n : Nm) : Prop := WN n ∧ n.length ≤ 3 ∧ ∀ r ∈ n, r.length ≤ 2
theorem mailR_len (r : List At) : (mailR r).length ≤ r.length := by
  induction r with
  | nil => simp [mailR]
  | cons a r ih =>
    have := mailA_len a
    rw [mailR, List.flatMap_cons, List.length_append, ← mailR, List.length_cons]; omega
theorem mails_len {n : Nm} (h : ∀ r ∈ n, r.length ≤ 2) : (mailsOf n).length ≤ n.length * 2 := by
  induction n with
  | nil => simp [mailsOf]
  | cons r n ih =>
    have h1 := mailR_len r
    have h2 := h r (by simp)
    have h3 := ih fun r hr => h r (by simp [hr])
    rw [mailsOf, List.flatMap_cons, List.length_append, ← mailsOf, List.length_cons]; omega
theorem mails_we {n : Nm} (h : WN n) : ∀ x ∈ mailsOf n, WE x := fun x hx => by
  obtain ⟨r, hr, hx⟩ := List.mem_flatMap.1 hx
  obtain ⟨a, ha, hx⟩ := List.mem_flatMap.1 hx
  unfold mailA at hx
  split at hx
  · simp at hx; subst hx
    exact ⟨⟨by simp, by simp⟩, (h.2 r hr).2 a ha⟩
  · simp at hx
structure WX (c : Ce) : Prop where
  sub : SN c.subject
  names : c.info.names.length ≤ 2 ∧ ∀ g ∈ c.info.names, WE g
  pur : c.info.purposes.length ≤ 1
  unk : c.info.unk.length ≤ 1
theorem wx_len {c : Ce} (w : WX c) : (namesOf c).length ≤ 9 := by
  have h1 := mails_len w.sub.2.2
  have h2 := w.sub.2.1
  have h3 := w.names.1
  rw [namesOf, List.length_append, baseOf, List.length_append]
  split <;> simp <;> omega
theorem wx_each {c : Ce} (w : WX c) : ∀ x ∈ namesOf c, WE x := fun x hx => by
  rw [namesOf, List.mem_append, baseOf, List.mem_append] at hx
  rcases hx with (hx | hx) | hx
  · exact w.names.2 x hx
  · split at hx
    · simp at hx
    · simp at hx; subst hx
      exact ⟨w.sub.1, by simp⟩
  · exact mails_we w.sub.1 x hx
end Go.Stp
namespace Go.Proofs.YtcfmanhblonjeaaGreatDoor
open Go.VS Go.Stp
theorem wx_tg {c : Ce} {q : Qu} (w : WX c) (h : q.names.length ≤ 2 ∧ ∀ g ∈ q.names, WE g) : WTg c q :=
  ⟨w.sub.1, by have := w.names.1; omega, by have := w.pur; omega, by have := wx_len w; omega, wx_each w, by have := h.1; omega, h.2⟩
theorem authN_sn (k : Nat) : SN (authN k) := ⟨authN_wn k, by unfold authN; split <;> simp, by
  intro r hr
  unfold authN at hr
  split at hr <;> simp at hr
  · rcases hr with rfl | rfl <;> simp
  · subst hr; simp⟩
theorem wce_wx {f t : Int} {c : Ce} (w : WCe f t c) : WX c := ⟨by rw [w.subject]; exact authN_sn _, w.info.names, w.info.pur, w.info.unk⟩
set_option linter.all false
set_option maxRecDepth 100000
set_option maxHeartbeats 16000000
theorem name_dc {l : List Int} (h : DkOk l) : DC Tryz.prog 8 [] l (fun r => ∃ n : Nm, SN n ∧ r = .agg [nmV n]) := dc_mut fun a ha => by
  refine ⟨(nameS l a).2, _, nameS_le ha, ⟨_, ⟨nameS_wn, nameS_len, fun r hr => (rdnsS_small _ r hr).1⟩, rfl⟩, by simp, name_call l a h.len ha h.rng⟩
attribute [local irreducible] arun arunD arunU AWp aend bits
theorem ends_call (l : List Int) (h : DkOk l) : PCall Tryz.prog 3 [.sl l.length (l.map (V.int .i64))] (.bool true) := by
  have aw := awake_call
  have n4 : DC Tryz.prog 7 [.int .i64 4] l (IntQ 4) := next_dc h 4 (by omega) (by omega)
  have n2 : DC Tryz.prog 7 [.int .i64 2] l (IntQ 2) := next_dc h 2 (by omega) (by omega)
  have pg := progress_dc h
  have nm := name_dc h
  have ha0 : 0 ≤ l.length := by omega
  refine pcall_body Tryz.func3 rfl Tryz.call3 ?_ ?_
  rotate_left 1
  refine awp_slots (s' := (.sl l.length (l.map (V.int .i64)) : V) :: zJ 74) rfl ?_; dsimp only [zJ]
  · refine awp_seq fun K hK => ?_
    repeat' (first | ((first | refine Y0 rfl fun K9 h9 => ?_ | refine Y1 rfl rfl fun K9 h9 => ?_ | refine Y2 rfl rfl fun K9 h9 => ?_ | (refine Y3 ?_ ?_; (focus (simp; done)); intro K9 h9) | ((first | refine Y4 rfl ?_ ?_ | refine Y5 rfl ?_ ?_); (focus (simp; done)); intro K9 h9)); simp (disch := first | exact dd | fail); (try simp (disch := first | exact de | fail) only [X7]); ((first | refine acall_new (deck_call l) (dk_pures _ _) (by simp) ?_ | (refine acall_dc pg rfl (by assumption) (by simp) (fun r a' ha' hQ hr => ?_); obtain ⟨s, hs, rfl⟩ := hQ; clear hr; rw [Pg.c.eq_1 s]) | (refine acall_dc n4 rfl (by assumption) (by simp) (fun r a' ha' hQ hr => ?_); obtain ⟨x, hx1, hx2, rfl⟩ := hQ; clear hr) | (refine acall_dc n2 rfl (by assumption) (by simp) (fun r a' ha' hQ hr => ?_); obtain ⟨x, hx1, hx2, rfl⟩ := hQ; clear hr) | (refine acall_dc (certf_dc h _ _ (by omega) (by omega) (by omega) (by omega) _) rfl (by assumption) (by simp) (fun r a' ha' hQ hr => ?_); obtain ⟨c, hc, rfl⟩ := hQ; clear hr; rw [Ce.c.eq_1 c]) | skip) <;> ((repeat (refine Yz ?_)); (first | refine h9 _ _ (Ys ?_) | refine h9 _ _ (Yt ?_)); clear h9 K9))) | refine Y6 ?_ | refine Y7 ?_ | refine Y9 ?_ | ((first | refine Yk (m := 0) (by decide +kernel) [] (by kernel_rfl) (by decide +kernel) ?_ | refine Yk (m := 2) (by decide +kernel) [] (by kernel_rfl) (by decide +kernel) ?_); simp only [List.replicate, XL]) | (refine Yb rfl ?_ ?_ <;> intro hcnd <;> (try simp at hcnd) <;> try exact dc) | refine Yc ?_ | (refine Ye ?_; refine Yf ?_) | (refine Yh ?_ ?_; (focus (simp; done)); refine Ys ?_) | ((first | refine Yi rfl ?_ ?_ | refine Yj rfl ?_ ?_); (focus (simp; done)); refine Yt ?_) | refine Yg ?_ | (simp only [X0, Nat.reduceBEq]))
    refine hK _ _ ?_; clear hK K
    refine awp_seq fun K hK => ?_
    repeat' (first | ((first | refine Y0 rfl fun K9 h9 => ?_ | refine Y1 rfl rfl fun K9 h9 => ?_ | refine Y2 rfl rfl fun K9 h9 => ?_ | (refine Y3 ?_ ?_; (focus (simp; done)); intro K9 h9) | ((first | refine Y4 rfl ?_ ?_ | refine Y5 rfl ?_ ?_); (focus (simp; done)); intro K9 h9)); simp (disch := first | exact dd | fail); (try simp (disch := first | exact de | fail) only [X7]); ((first | refine acall_new (deck_call l) (dk_pures _ _) (by simp) ?_ | (refine acall_dc pg rfl (by assumption) (by simp) (fun r a' ha' hQ hr => ?_); obtain ⟨s, hs, rfl⟩ := hQ; clear hr; rw [Pg.c.eq_1 s]) | (refine acall_dc n4 rfl (by assumption) (by simp) (fun r a' ha' hQ hr => ?_); obtain ⟨x, hx1, hx2, rfl⟩ := hQ; clear hr) | (refine acall_dc n2 rfl (by assumption) (by simp) (fun r a' ha' hQ hr => ?_); obtain ⟨x, hx1, hx2, rfl⟩ := hQ; clear hr) | (refine acall_dc (certf_dc h _ _ (by omega) (by omega) (by omega) (by omega) _) rfl (by assumption) (by simp) (fun r a' ha' hQ hr => ?_); obtain ⟨c, hc, rfl⟩ := hQ; clear hr; rw [Ce.c.eq_1 c]) | skip) <;> ((repeat (refine Yz ?_)); (first | refine h9 _ _ (Ys ?_) | refine h9 _ _ (Yt ?_)); clear h9 K9))) | refine Y6 ?_ | refine Y7 ?_ | refine Y9 ?_ | ((first | refine Yk (m := 0) (by decide +kernel) [] (by kernel_rfl) (by decide +kernel) ?_ | refine Yk (m := 2) (by decide +kernel) [] (by kernel_rfl) (by decide +kernel) ?_); simp only [List.replicate, XL]) | (refine Yb rfl ?_ ?_ <;> intro hcnd <;> (try simp at hcnd) <;> try exact dc) | refine Yc ?_ | (refine Ye ?_; refine Yf ?_) | (refine Yh ?_ ?_; (focus (simp; done)); refine Ys ?_) | ((first | refine Yi rfl ?_ ?_ | refine Yj rfl ?_ ?_); (focus (simp; done)); refine Yt ?_) | refine Yg ?_ | (simp only [X0, Nat.reduceBEq]))
    refine hK _ _ ?_; clear hK K
    refine awp_seq fun K hK => ?_
    repeat' (first | ((first | refine Y0 rfl fun K9 h9 => ?_ | refine Y1 rfl rfl fun K9 h9 => ?_ | refine Y2 rfl rfl fun K9 h9 => ?_ | (refine Y3 ?_ ?_; (focus (simp; done)); intro K9 h9) | ((first | refine Y4 rfl ?_ ?_ | refine Y5 rfl ?_ ?_); (focus (simp; done)); intro K9 h9)); simp (disch := first | exact dd | fail); (try simp (disch := first | exact de | fail) only [X7]); ((first | refine acall_new (deck_call l) (dk_pures _ _) (by simp) ?_ | (refine acall_dc pg rfl (by assumption) (by simp) (fun r a' ha' hQ hr => ?_); obtain ⟨s, hs, rfl⟩ := hQ; clear hr; rw [Pg.c.eq_1 s]) | (refine acall_dc n4 rfl (by assumption) (by simp) (fun r a' ha' hQ hr => ?_); obtain ⟨x, hx1, hx2, rfl⟩ := hQ; clear hr) | (refine acall_dc n2 rfl (by assumption) (by simp) (fun r a' ha' hQ hr => ?_); obtain ⟨x, hx1, hx2, rfl⟩ := hQ; clear hr) | (refine acall_dc (certf_dc h _ _ (by omega) (by omega) (by omega) (by omega) _) rfl (by assumption) (by simp) (fun r a' ha' hQ hr => ?_); obtain ⟨c, hc, rfl⟩ := hQ; clear hr; rw [Ce.c.eq_1 c]) | skip) <;> ((repeat (refine Yz ?_)); (first | refine h9 _ _ (Ys ?_) | refine h9 _ _ (Yt ?_)); clear h9 K9))) | refine Y6 ?_ | refine Y7 ?_ | refine Y9 ?_ | ((first | refine Yk (m := 0) (by decide +kernel) [] (by kernel_rfl) (by decide +kernel) ?_ | refine Yk (m := 2) (by decide +kernel) [] (by kernel_rfl) (by decide +kernel) ?_); simp only [List.replicate, XL]) | (refine Yb rfl ?_ ?_ <;> intro hcnd <;> (try simp at hcnd) <;> try exact dc) | refine Yc ?_ | (refine Ye ?_; refine Yf ?_) | (refine Yh ?_ ?_; (focus (simp; done)); refine Ys ?_) | ((first | refine Yi rfl ?_ ?_ | refine Yj rfl ?_ ?_); (focus (simp; done)); refine Yt ?_) | refine Yg ?_ | (simp only [X0, Nat.reduceBEq]))
    refine hK _ _ ?_; clear hK K
    refine awp_seq fun K hK => ?_
    repeat' (first | ((first | refine Y0 rfl fun K9 h9 => ?_ | refine Y1 rfl rfl fun K9 h9 => ?_ | refine Y2 rfl rfl fun K9 h9 => ?_ | (refine Y3 ?_ ?_; (focus (simp; done)); intro K9 h9) | ((first | refine Y4 rfl ?_ ?_ | refine Y5 rfl ?_ ?_); (focus (simp; done)); intro K9 h9)); simp (disch := first | exact dd | fail); (try simp (disch := first | exact de | fail) only [X7]); ((first | refine acall_new (deck_call l) (dk_pures _ _) (by simp) ?_ | (refine acall_dc pg rfl (by assumption) (by simp) (fun r a' ha' hQ hr => ?_); obtain ⟨s, hs, rfl⟩ := hQ; clear hr; rw [Pg.c.eq_1 s]) | (refine acall_dc n4 rfl (by assumption) (by simp) (fun r a' ha' hQ hr => ?_); obtain ⟨x, hx1, hx2, rfl⟩ := hQ; clear hr) | (refine acall_dc n2 rfl (by assumption) (by simp) (fun r a' ha' hQ hr => ?_); obtain ⟨x, hx1, hx2, rfl⟩ := hQ; clear hr) | (refine acall_dc (certf_dc h _ _ (by omega) (by omega) (by omega) (by omega) _) rfl (by assumption) (by simp) (fun r a' ha' hQ hr => ?_); obtain ⟨c, hc, rfl⟩ := hQ; clear hr; rw [Ce.c.eq_1 c]) | skip) <;> ((repeat (refine Yz ?_)); (first | refine h9 _ _ (Ys ?_) | refine h9 _ _ (Yt ?_)); clear h9 K9))) | refine Y6 ?_ | refine Y7 ?_ | refine Y9 ?_ | ((first | refine Yk (m := 0) (by decide +kernel) [] (by kernel_rfl) (by decide +kernel) ?_ | refine Yk (m := 2) (by decide +kernel) [] (by kernel_rfl) (by decide +kernel) ?_); simp only [List.replicate, XL]) | (refine Yb rfl ?_ ?_ <;> intro hcnd <;> (try simp at hcnd) <;> try exact dc) | refine Yc ?_ | (refine Ye ?_; refine Yf ?_) | (refine Yh ?_ ?_; (focus (simp; done)); refine Ys ?_) | ((first | refine Yi rfl ?_ ?_ | refine Yj rfl ?_ ?_); (focus (simp; done)); refine Yt ?_) | refine Yg ?_ | (simp only [X0, Nat.reduceBEq]))
    refine hK _ _ ?_; clear hK K
    have hwx := wce_wx hc
    clear hc
    refine awp_seqJ fun K1 hK1 hJ1 => ?_
    have main1 : ∀ (c : Ce) (b : Nat), WX c → b ≤ l.length → K1 ((V.junk :: V.junk :: V.junk :: (V.ref 0 0) :: (V.ref 1 0) :: (V.ref 2 0) :: V.junk :: V.junk :: V.junk :: V.junk :: V.junk :: V.junk :: V.junk :: V.junk :: V.junk :: V.junk :: V.junk :: V.junk :: V.junk :: V.junk :: V.junk :: V.junk :: V.junk :: V.junk :: V.junk :: V.junk :: V.junk :: V.junk :: V.junk :: V.junk :: V.junk :: V.junk :: V.junk :: V.junk :: V.junk :: V.junk :: V.junk :: V.junk :: V.junk :: V.junk :: V.junk :: V.junk :: V.junk :: V.junk :: V.junk :: V.junk :: V.junk :: V.junk :: V.junk :: V.junk :: V.junk :: V.junk :: V.junk :: V.junk :: V.junk :: V.junk :: V.junk :: V.junk :: V.junk :: V.junk :: V.junk :: V.junk :: V.junk :: V.junk :: V.junk :: V.junk :: V.junk :: V.junk :: V.junk :: V.junk :: V.junk :: V.junk :: V.junk :: V.junk :: V.junk :: [])) [.live (dk l b), .live [nmV s.issuer, .int .i64 s.key.h, .str s.key.id, .str s.key.root, .bool s.lists, .int .i64 s.len, .int .i64 s.expl, .int .i64 s.map, .int .i64 s.any, sbsV s.names], .live c.c] := by
      intro c b hwx hb
      refine hK1 _ _ ?_
      clear hK1 hJ1 K1 nm pg n4
      have hcp := Ce.c_pures c
      refine awp_seq fun K hK => ?_
      repeat' (first | ((first | refine Y0 rfl fun K9 h9 => ?_ | refine Y1 rfl rfl fun K9 h9 => ?_ | refine Y2 rfl rfl fun K9 h9 => ?_ | (refine Y3 ?_ ?_; (focus (simp; done)); intro K9 h9) | ((first | refine Y4 rfl ?_ ?_ | refine Y5 rfl ?_ ?_); (focus (simp; done)); intro K9 h9)); simp (disch := first | exact dd | fail); (try simp (disch := first | exact de | fail) only [X7]); ((first | (refine acall_en [0] (query_en h _ (by assumption)) (by simp) (by simp [rowsOver, rowRen_live, rens_pures]) (by simp) rfl (fun r rows' new hR hl hps hpn => ?_); obtain ⟨q, b', hq, hb', rfl, rfl, rfl⟩ := hR; refine ⟨_, qr_ren q rfl, ?_⟩; rw [QR.eq_1]) | skip) <;> ((repeat (refine Yz ?_)); (first | refine h9 _ _ (Ys ?_) | refine h9 _ _ (Yt ?_)); clear h9 K9))) | refine Y6 ?_ | refine Y7 ?_ | refine Y9 ?_ | ((first | refine Yk (m := 0) (by decide +kernel) [] (by kernel_rfl) (by decide +kernel) ?_ | refine Yk (m := 2) (by decide +kernel) [] (by kernel_rfl) (by decide +kernel) ?_); simp only [List.replicate, XL]) | (refine Yb rfl ?_ ?_ <;> intro hcnd <;> (try simp at hcnd) <;> try exact dc) | refine Yc ?_ | (refine Ye ?_; refine Yf ?_) | (refine Yh ?_ ?_; (focus (simp; done)); refine Ys ?_) | ((first | refine Yi rfl ?_ ?_ | refine Yj rfl ?_ ?_); (focus (simp; done)); refine Yt ?_) | refine Yg ?_ | (simp only [X0, Nat.reduceBEq]))
      refine hK _ _ ?_; clear hK K
      have hqw : q.names.length ≤ 1 ∧ ∀ g ∈ q.names, WE g := hq.names
      have hgq := gns_len q.names
      have hgp := gns_pures q.names
      have htk : List.take (q.names.length * 3) (q.names.flatMap Gn.c) = q.names.flatMap Gn.c := List.take_of_length_le (by omega)
      clear hq hps hpn hl
      refine awp_seqJ fun K2 hK2 hJ2 => ?_
      have main2 : ∀ (q : Qu) (b : Nat), (q.names.length ≤ 2 ∧ ∀ g ∈ q.names, WE g) → b ≤ l.length → K2 ((V.junk :: V.junk :: V.junk :: (V.ref 0 0) :: (V.ref 1 0) :: (V.ref 2 0) :: (V.ref 3 0) :: V.junk :: V.junk :: V.junk :: V.junk :: V.junk :: V.junk :: V.junk :: V.junk :: V.junk :: V.junk :: V.junk :: V.junk :: V.junk :: V.junk :: V.junk :: V.junk :: V.junk :: V.junk :: V.junk :: V.junk :: V.junk :: V.junk :: V.junk :: V.junk :: V.junk :: V.junk :: V.junk :: V.junk :: V.junk :: V.junk :: V.junk :: V.junk :: V.junk :: V.junk :: V.junk :: V.junk :: V.junk :: V.junk :: V.junk :: V.junk :: V.junk :: V.junk :: V.junk :: V.junk :: V.junk :: V.junk :: V.junk :: V.junk :: V.junk :: V.junk :: V.junk :: V.junk :: V.junk :: V.junk :: V.junk :: V.junk :: V.junk :: V.junk :: V.junk :: V.junk :: V.junk :: V.junk :: V.junk :: V.junk :: V.junk :: V.junk :: V.junk :: V.junk :: [])) [.live (dk l b), .live [nmV s.issuer, .int .i64 s.key.h, .str s.key.id, .str s.key.root, .bool s.lists, .int .i64 s.len, .int .i64 s.expl, .int .i64 s.map, .int .i64 s.any, sbsV s.names], .live c.c, .live q.c] := by
        intro q b hqw hb
        refine hK2 _ _ ?_
        clear hK2 hJ2 K2 n2
        have tg := target_call c q (wx_tg hwx hqw)
        have rtg := rtarget_call c q (wx_tg hwx hqw)
        have cr := critical_call c (by have := hwx.unk; omega)
        have rc := rcritical_call c (by have := hwx.unk; omega)
        have fi := final_any s c (by have := hs.expl; omega)
        have rf := rfinal_call s c (by have := hs.expl; unfold I64; omega)
        rw [Pg.c.eq_1 s] at fi rf
        rw [Ce.c.eq_1 c] at *
        rw [Qu.c.eq_1 q] at *
        repeat' (first | ((first | refine Yl rfl fun K9 h9 => ?_ | refine Y1 rfl rfl fun K9 h9 => ?_ | refine Y2 rfl rfl fun K9 h9 => ?_ | (refine Ym ?_ ?_; (focus (simp; done)); intro K9 h9) | ((first | refine Y4 rfl ?_ ?_ | refine Y5 rfl ?_ ?_); (focus (simp; done)); intro K9 h9)); simp (disch := first | exact dd | fail); (try simp (disch := first | exact de | fail) only [X7]); ((first | refine Ap cr ?_ | refine Ap rc ?_ | refine Ap fi ?_ | refine Ap rf ?_ | refine Ap tg ?_ | refine Ap rtg ?_ | refine Ap aw ?_ | skip) <;> ((repeat (refine Yz ?_)); (first | refine h9 _ _ (Yp ?_) | refine h9 _ _ (Yt ?_)); clear h9 K9))) | refine Yo ?_ | refine Y7 ?_ | (refine Y8 fun K hK => ?_) | refine Yq ?_ | (apply hK; clear hK K) | ((first | refine Yk (m := 0) (by decide +kernel) [] (by kernel_rfl) (by decide +kernel) ?_ | refine Yk (m := 2) (by decide +kernel) [] (by kernel_rfl) (by decide +kernel) ?_); simp only [List.replicate, XL]) | (refine Yb rfl ?_ ?_ <;> intro hcnd <;> (try simp at hcnd) <;> try exact dc) | refine Yc ?_ | (refine Ye ?_; refine Yf ?_) | (refine Yn ?_ ?_; (focus (simp; done)); refine Yp ?_) | ((first | refine Yi rfl ?_ ?_ | refine Yj rfl ?_ ?_); (focus (simp; done)); refine Yt ?_) | refine Yg ?_ | (simp only [X0, Nat.reduceBEq]) | clear hK K)
        all_goals (try simp)
        all_goals exact .pure .bool
      have rn := rnames_call c hwx.sub.1 (by have := hwx.names.1; omega)
      have hlen := wx_len hwx
      have hea := wx_each hwx
      have hnc := gens_at (namesOf c)
      have hnl := gns_len (namesOf c)
      rw [show gnsV (namesOf c) = .sl (namesOf c).length ((namesOf c).flatMap Gn.c) from rfl] at rn
      rw [Ce.c.eq_1 c] at *
      refine awp_seq fun K hK => ?_
      repeat' (first | ((first | refine Y0 rfl fun K9 h9 => ?_ | refine Y1 rfl rfl fun K9 h9 => ?_ | refine Y2 rfl rfl fun K9 h9 => ?_ | (refine Y3 ?_ ?_; (focus (simp; done)); intro K9 h9) | ((first | refine Y4 rfl ?_ ?_ | refine Y5 rfl ?_ ?_); (focus (simp; done)); intro K9 h9)); simp (disch := first | exact dd | fail); (try simp (disch := first | exact de | fail) only [X7]); ((first | (refine acall_dc n2 rfl (by assumption) (by simp) (fun r a' ha' hQ hr => ?_); obtain ⟨x, hx1, hx2, rfl⟩ := hQ; clear hr) | skip) <;> ((repeat (refine Yz ?_)); (first | refine h9 _ _ (Ys ?_) | refine h9 _ _ (Yt ?_)); clear h9 K9))) | refine Y6 ?_ | refine Y7 ?_ | refine Y9 ?_ | ((first | refine Yk (m := 0) (by decide +kernel) [] (by kernel_rfl) (by decide +kernel) ?_ | refine Yk (m := 2) (by decide +kernel) [] (by kernel_rfl) (by decide +kernel) ?_); simp only [List.replicate, XL]) | (refine Yb rfl ?_ ?_ <;> intro hcnd <;> (try simp at hcnd) <;> try exact dc) | refine Yc ?_ | (refine Ye ?_; refine Yf ?_) | (refine Yh ?_ ?_; (focus (simp; done)); refine Ys ?_) | ((first | refine Yi rfl ?_ ?_ | refine Yj rfl ?_ ?_); (focus (simp; done)); refine Yt ?_) | refine Yg ?_ | (simp only [X0, Nat.reduceBEq]))
      refine hK _ _ ?_; clear hK K
      refine awp_cond rfl (fun hcnd => ?_) (fun hcnd => ?_)
      · refine awp_seq fun K hK => ?_
        repeat' (first | ((first | refine Y0 rfl fun K9 h9 => ?_ | refine Y1 rfl rfl fun K9 h9 => ?_ | refine Y2 rfl rfl fun K9 h9 => ?_ | (refine Y3 ?_ ?_; (focus (simp; done)); intro K9 h9) | ((first | refine Y4 rfl ?_ ?_ | refine Y5 rfl ?_ ?_); (focus (simp; done)); intro K9 h9)); simp (disch := first | exact dd | fail); (try simp (disch := first | exact de | fail) only [X7]); ((first | refine Ap rn ?_ | skip) <;> ((repeat (refine Yz ?_)); (first | refine h9 _ _ (Ys ?_) | refine h9 _ _ (Yt ?_)); clear h9 K9))) | refine Y6 ?_ | refine Y7 ?_ | refine Y9 ?_ | ((first | refine Yk (m := 0) (by decide +kernel) [] (by kernel_rfl) (by decide +kernel) ?_ | refine Yk (m := 2) (by decide +kernel) [] (by kernel_rfl) (by decide +kernel) ?_); simp only [List.replicate, XL]) | (refine Yb rfl ?_ ?_ <;> intro hcnd <;> (try simp at hcnd) <;> try exact dc) | refine Yc ?_ | (refine Ye ?_; refine Yf ?_) | (refine Yh ?_ ?_; (focus (simp; done)); refine Ys ?_) | ((first | refine Yi rfl ?_ ?_ | refine Yj rfl ?_ ?_); (focus (simp; done)); refine Yt ?_) | refine Yg ?_ | (simp only [X0, Nat.reduceBEq]))
        refine hK _ _ ?_; clear hK K
        refine awp_seq fun K hK => ?_
        repeat' (first | ((first | refine Y0 rfl fun K9 h9 => ?_ | refine Y1 rfl rfl fun K9 h9 => ?_ | refine Y2 rfl rfl fun K9 h9 => ?_ | (refine Y3 ?_ ?_; (focus (simp; done)); intro K9 h9) | ((first | refine Y4 rfl ?_ ?_ | refine Y5 rfl ?_ ?_); (focus (simp; done)); intro K9 h9)); simp (disch := first | exact dd | fail); (try simp (disch := first | exact de | fail) only [X7]); ((first | refine Ap rn ?_ | skip) <;> ((repeat (refine Yz ?_)); (first | refine h9 _ _ (Ys ?_) | refine h9 _ _ (Yt ?_)); clear h9 K9))) | refine Y6 ?_ | refine Y7 ?_ | refine Y9 ?_ | ((first | refine Yk (m := 0) (by decide +kernel) [] (by kernel_rfl) (by decide +kernel) ?_ | refine Yk (m := 2) (by decide +kernel) [] (by kernel_rfl) (by decide +kernel) ?_); simp only [List.replicate, XL]) | (refine Yb rfl ?_ ?_ <;> intro hcnd <;> (try simp at hcnd) <;> try exact dc) | refine Yc ?_ | (refine Ye ?_; refine Yf ?_) | (refine Yh ?_ ?_; (focus (simp; done)); refine Ys ?_) | ((first | refine Yi rfl ?_ ?_ | refine Yj rfl ?_ ?_); (focus (simp; done)); refine Yt ?_) | refine Yg ?_ | (simp only [X0, Nat.reduceBEq]))
        refine hK _ _ ?_; clear hK K
        refine awp_cond rfl (fun hcnd => ?_) (fun hcnd => ?_)
        · have hpos : 0 < (namesOf c).length := by simpa using hcnd
          have b9 := dkX_bounds (l := l) (a := a') (n := (namesOf c).length) hpos
          have nx := next_call l a' (namesOf c).length h.len (by assumption) hpos (by omega) h.rng
          have hxa := dkA_le (l := l) (a := a') (by assumption)
          obtain ⟨k, hk, hkm⟩ : ∃ k : Nat, dkX l a' (namesOf c).length = k ∧ k < (namesOf c).length := ⟨(dkX l a' (namesOf c).length).toNat, by omega, by omega⟩
          rw [hk] at nx
          have hgk := hnc k hkm
          have hxe := hea _ (List.getElem_mem hkm)
          obtain ⟨x, hx⟩ : ∃ x, (namesOf c)[k] = x := ⟨_, rfl⟩
          rw [hx] at hgk hxe
          rw [show x.c = [.int .i64 x.kind, .str x.text, nmV x.name] from rfl] at hgk
          clear b9 hnc hea hx
          have m2 := main2 { q with names := q.names ++ [x] } (dkA l a') ⟨by simp; omega, fun g hg => by simp at hg; rcases hg with hg | rfl; exact hqw.2 g hg; exact hxe⟩ hxa
          rw [Qu.c.eq_1] at m2
          dsimp only at m2
          rw [show gnsV (q.names ++ [x]) = .sl (q.names.length + 1) (q.names.flatMap Gn.c ++ [.int .i64 x.kind, .str x.text, nmV x.name]) by simp [gnsV, Gn.c, nmV]] at m2
          generalize (namesOf c).flatMap Gn.c = ncs at *
          obtain ⟨qcs, hqcs⟩ : ∃ z, q.names.flatMap Gn.c = z := ⟨_, rfl⟩
          rw [hqcs] at hgq hgp htk m2 ⊢
          have hql : q.names.length ≤ 1 := hqw.1
          generalize dkA l a' = a2 at *
          clear main2 n2
          repeat' (first | ((first | refine Yl rfl fun K9 h9 => ?_ | refine Y1 rfl rfl fun K9 h9 => ?_ | refine Y2 rfl rfl fun K9 h9 => ?_ | (refine Ym ?_ ?_; (focus (simp [hgk, hnl, hgq]; done)); intro K9 h9) | ((first | refine Y4 rfl ?_ ?_ | refine Y5 rfl ?_ ?_); (focus (simp [hgk, hnl, hgq]; done)); intro K9 h9)); simp (disch := first | exact dd | fail) [hgk, hnl, hgq]; (try simp (disch := first | exact de | fail) only [X7]); ((first | refine acallF_mutd nx rfl (dk_pures _ _) (dk_pures _ _) (by simp) (by simp) ?_ | refine aeffS_load (v := .osl 3 0 q.names.length 3) rfl (by simp; done) (by simp; done) ?_ | skip) <;> ((repeat (refine Yz ?_)); (first | refine h9 _ _ (Yp ?_) | refine h9 _ _ (Yt ?_)); clear h9 K9))) | refine Yo ?_ | refine Y7 ?_ | (refine Y8 fun K hK => ?_) | refine Yq ?_ | (apply hK; clear hK K) | ((first | refine awp_region_drawL (m := 0) [(4, 7, .osl 3 0 q.names.length 3)] (by simp) (by decide +kernel) [0, 3, 0, 0, 0, 0, 2, 0, 1, 0, 0, 0, 0] 12 (by kernel_rfl) (by kernel_rfl) (by decide +kernel) (by decide +kernel) ?_ | refine awp_region_drawL (m := 2) [(4, 7, .osl 3 0 q.names.length 3)] (by simp) (by decide +kernel) [0, 3, 0, 0, 0, 0, 2, 0, 1, 0, 0, 0, 0] 12 (by kernel_rfl) (by kernel_rfl) (by decide +kernel) (by decide +kernel) ?_ | refine Yk (m := 0) (by decide +kernel) [0, 3, 0, 0, 0, 0, 2, 0, 1, 0, 0, 0, 0] (by kernel_rfl) (by decide +kernel) ?_ | refine Yk (m := 2) (by decide +kernel) [0, 3, 0, 0, 0, 0, 2, 0, 1, 0, 0, 0, 0] (by kernel_rfl) (by decide +kernel) ?_ | refine Yk (m := 0) (by decide +kernel) [] (by kernel_rfl) (by decide +kernel) ?_ | refine Yk (m := 2) (by decide +kernel) [] (by kernel_rfl) (by decide +kernel) ?_); simp only [List.replicate, XL]) | (refine Yb rfl ?_ ?_ <;> intro hcnd <;> (try simp at hcnd) <;> try exact dc) | refine Yc ?_ | (refine Ye ?_; refine Yf ?_) | (refine Yn ?_ ?_; (focus (simp [hgk, hnl, hgq]; done)); refine Yp ?_) | ((first | refine Yi rfl ?_ ?_ | refine Yj rfl ?_ ?_); (focus (simp [hgk, hnl, hgq]; done)); refine Yt ?_) | refine Yg ?_ | (simp only [X0, Nat.reduceBEq]) | clear hK K)
          have hpq : Pures (qcs ++ [.int .i64 x.kind, .str x.text, nmV x.name]) := by simp; exact hgp
          have hle : (q.names.length + 1) * 3 ≤ q.names.length * 3 + 3 := by omega
          have htk2 : List.take ((q.names.length + 1) * 3) (qcs ++ [V.int .i64 x.kind, .str x.text, nmV x.name]) = qcs ++ [.int .i64 x.kind, .str x.text, nmV x.name] := List.take_of_length_le (by simp; omega)
          rw [htk]
          refine hJ2.fz 6 rfl hpq (by simp [hgq, hle, htk2]; rfl) (by simp [fzRow, hgq, hle, htk2, fz_map (dk_pures _ _)]; rfl) ?_
          refine hJ2.le _ _ _ _ ?_ m2
          exact Yr [some 0, some 1, some 2, some 4] (by simp [rowsOver, rowRen_live, rens_pures, gnsV, htk2])
        · repeat' (first | ((first | refine Y0 rfl fun K9 h9 => ?_ | refine Y1 rfl rfl fun K9 h9 => ?_ | refine Y2 rfl rfl fun K9 h9 => ?_ | (refine Y3 ?_ ?_; (focus (simp; done)); intro K9 h9) | ((first | refine Y4 rfl ?_ ?_ | refine Y5 rfl ?_ ?_); (focus (simp; done)); intro K9 h9)); simp (disch := first | exact dd | fail); (try simp (disch := first | exact de | fail) only [X7]); ((repeat (refine Yz ?_)); (first | refine h9 _ _ (Ys ?_) | refine h9 _ _ (Yt ?_)); clear h9 K9)) | refine Y6 ?_ | refine Y7 ?_ | (refine Y8 fun K hK => ?_) | refine Y9 ?_ | (apply hK; clear hK K) | ((first | refine Yk (m := 0) (by decide +kernel) [] (by kernel_rfl) (by decide +kernel) ?_ | refine Yk (m := 2) (by decide +kernel) [] (by kernel_rfl) (by decide +kernel) ?_); simp only [List.replicate, XL]) | (refine Yb rfl ?_ ?_ <;> intro hcnd <;> (try simp at hcnd) <;> try exact dc) | refine Yc ?_ | (refine Ye ?_; refine Yf ?_) | (refine Yh ?_ ?_; (focus (simp; done)); refine Ys ?_) | ((first | refine Yi rfl ?_ ?_ | refine Yj rfl ?_ ?_); (focus (simp; done)); refine Yt ?_) | refine Yg ?_ | (simp only [X0, Nat.reduceBEq]) | clear hK K)
          refine hJ2.fz 3 rfl hgp (by simp; rfl) (by simp [fzRow, hgq, htk, fz_map (dk_pures _ _)]; rfl) ?_
          refine hJ2.le _ _ _ _ ?_ (main2 q _ ⟨by omega, hqw.2⟩ (by assumption))
          rw [Qu.c.eq_1]
          exact Yr [some 0, some 1, some 2, some 4] (by simp [rowsOver, rowRen_live, rens_pures, gnsV, htk])
      · repeat' (first | ((first | refine Y0 rfl fun K9 h9 => ?_ | refine Y1 rfl rfl fun K9 h9 => ?_ | refine Y2 rfl rfl fun K9 h9 => ?_ | (refine Y3 ?_ ?_; (focus (simp; done)); intro K9 h9) | ((first | refine Y4 rfl ?_ ?_ | refine Y5 rfl ?_ ?_); (focus (simp; done)); intro K9 h9)); simp (disch := first | exact dd | fail); (try simp (disch := first | exact de | fail) only [X7]); ((repeat (refine Yz ?_)); (first | refine h9 _ _ (Ys ?_) | refine h9 _ _ (Yt ?_)); clear h9 K9)) | refine Y6 ?_ | refine Y7 ?_ | (refine Y8 fun K hK => ?_) | refine Y9 ?_ | (apply hK; clear hK K) | ((first | refine Yk (m := 0) (by decide +kernel) [] (by kernel_rfl) (by decide +kernel) ?_ | refine Yk (m := 2) (by decide +kernel) [] (by kernel_rfl) (by decide +kernel) ?_); simp only [List.replicate, XL]) | (refine Yb rfl ?_ ?_ <;> intro hcnd <;> (try simp at hcnd) <;> try exact dc) | refine Yc ?_ | (refine Ye ?_; refine Yf ?_) | (refine Yh ?_ ?_; (focus (simp; done)); refine Ys ?_) | ((first | refine Yi rfl ?_ ?_ | refine Yj rfl ?_ ?_); (focus (simp; done)); refine Yt ?_) | refine Yg ?_ | (simp only [X0, Nat.reduceBEq]) | clear hK K)
        refine hJ2.fz 3 rfl hgp (by simp; rfl) (by simp [fzRow, hgq, htk, fz_map (dk_pures _ _)]; rfl) ?_
        refine hJ2.le _ _ _ _ ?_ (main2 q _ ⟨by omega, hqw.2⟩ (by assumption))
        rw [Qu.c.eq_1]
        exact Yr [some 0, some 1, some 2, some 4] (by simp [rowsOver, rowRen_live, rens_pures, gnsV, htk])
    refine awp_seq fun K hK => ?_
    repeat' (first | ((first | refine Y0 rfl fun K9 h9 => ?_ | refine Y1 rfl rfl fun K9 h9 => ?_ | refine Y2 rfl rfl fun K9 h9 => ?_ | (refine Y3 ?_ ?_; (focus (simp; done)); intro K9 h9) | ((first | refine Y4 rfl ?_ ?_ | refine Y5 rfl ?_ ?_); (focus (simp; done)); intro K9 h9)); simp (disch := first | exact dd | fail); (try simp (disch := first | exact de | fail) only [X7]); ((first | (refine acall_dc n2 rfl (by assumption) (by simp) (fun r a' ha' hQ hr => ?_); obtain ⟨x, hx1, hx2, rfl⟩ := hQ; clear hr) | skip) <;> ((repeat (refine Yz ?_)); (first | refine h9 _ _ (Ys ?_) | refine h9 _ _ (Yt ?_)); clear h9 K9))) | refine Y6 ?_ | refine Y7 ?_ | refine Y9 ?_ | ((first | refine Yk (m := 0) (by decide +kernel) [] (by kernel_rfl) (by decide +kernel) ?_ | refine Yk (m := 2) (by decide +kernel) [] (by kernel_rfl) (by decide +kernel) ?_); simp only [List.replicate, XL]) | (refine Yb rfl ?_ ?_ <;> intro hcnd <;> (try simp at hcnd) <;> try exact dc) | refine Yc ?_ | (refine Ye ?_; refine Yf ?_) | (refine Yh ?_ ?_; (focus (simp; done)); refine Ys ?_) | ((first | refine Yi rfl ?_ ?_ | refine Yj rfl ?_ ?_); (focus (simp; done)); refine Yt ?_) | refine Yg ?_ | (simp only [X0, Nat.reduceBEq]))
    refine hK _ _ ?_; clear hK K
    refine awp_cond rfl (fun hcnd => ?_) (fun hcnd => ?_)
    · repeat' (first | ((first | refine Y0 rfl fun K9 h9 => ?_ | refine Y1 rfl rfl fun K9 h9 => ?_ | refine Y2 rfl rfl fun K9 h9 => ?_ | (refine Y3 ?_ ?_; (focus (simp; done)); intro K9 h9) | ((first | refine Y4 rfl ?_ ?_ | refine Y5 rfl ?_ ?_); (focus (simp; done)); intro K9 h9)); simp (disch := first | exact dd | fail); (try simp (disch := first | exact de | fail) only [X7]); ((first | (refine acall_dc nm rfl (by assumption) (by simp) (fun r a' ha' hQ hr => ?_); obtain ⟨n, hn, rfl⟩ := hQ; clear hr) | skip) <;> ((repeat (refine Yz ?_)); (first | refine h9 _ _ (Ys ?_) | refine h9 _ _ (Yt ?_)); clear h9 K9))) | refine Y6 ?_ | refine Y7 ?_ | (refine Y8 fun K hK => ?_) | refine Y9 ?_ | (apply hK; clear hK K) | ((first | refine Yk (m := 0) (by decide +kernel) [] (by kernel_rfl) (by decide +kernel) ?_ | refine Yk (m := 2) (by decide +kernel) [] (by kernel_rfl) (by decide +kernel) ?_); simp only [List.replicate, XL]) | (refine Yb rfl ?_ ?_ <;> intro hcnd <;> (try simp at hcnd) <;> try exact dc) | refine Yc ?_ | (refine Ye ?_; refine Yf ?_) | (refine Yh ?_ ?_; (focus (simp; done)); refine Ys ?_) | ((first | refine Yi rfl ?_ ?_ | refine Yj rfl ?_ ?_); (focus (simp; done)); refine Yt ?_) | refine Yg ?_ | (simp only [X0, Nat.reduceBEq]) | clear hK K)
      refine hJ1.le _ _ _ _ ?_ (main1 { c with subject := n } _ ⟨hn, hwx.names, hwx.pur, hwx.unk⟩ (by assumption))
      rw [Ce.c.eq_1]
      exact Yr [some 0, some 1, some 2] (by simp [rowsOver, rowRen_live, rens_pures])
    · repeat' (first | ((first | refine Y0 rfl fun K9 h9 => ?_ | refine Y1 rfl rfl fun K9 h9 => ?_ | refine Y2 rfl rfl fun K9 h9 => ?_ | (refine Y3 ?_ ?_; (focus (simp; done)); intro K9 h9) | ((first | refine Y4 rfl ?_ ?_ | refine Y5 rfl ?_ ?_); (focus (simp; done)); intro K9 h9)); simp (disch := first | exact dd | fail); (try simp (disch := first | exact de | fail) only [X7]); ((repeat (refine Yz ?_)); (first | refine h9 _ _ (Ys ?_) | refine h9 _ _ (Yt ?_)); clear h9 K9)) | refine Y6 ?_ | refine Y7 ?_ | (refine Y8 fun K hK => ?_) | refine Y9 ?_ | (apply hK; clear hK K) | ((first | refine Yk (m := 0) (by decide +kernel) [] (by kernel_rfl) (by decide +kernel) ?_ | refine Yk (m := 2) (by decide +kernel) [] (by kernel_rfl) (by decide +kernel) ?_); simp only [List.replicate, XL]) | (refine Yb rfl ?_ ?_ <;> intro hcnd <;> (try simp at hcnd) <;> try exact dc) | refine Yc ?_ | (refine Ye ?_; refine Yf ?_) | (refine Yh ?_ ?_; (focus (simp; done)); refine Ys ?_) | ((first | refine Yi rfl ?_ ?_ | refine Yj rfl ?_ ?_); (focus (simp; done)); refine Yt ?_) | refine Yg ?_ | (simp only [X0, Nat.reduceBEq]) | clear hK K)
      refine hJ1.le _ _ _ _ ?_ (main1 c _ hwx (by assumption))
      rw [Ce.c.eq_1]
      exact Yr [some 0, some 1, some 2] (by simp [rowsOver, rowRen_live, rens_pures])
  · exact .bool
theorem stepEnds_fits : ∀ xs, FitsAll Tryz.prog 8 Tryz.f3.params.toList xs → PCall Tryz.prog 3 xs (.bool true) := by
  intro xs h
  rw [show Tryz.f3.params.toList = [22] by kernel_rfl] at h
  obtain ⟨x1, xs, rfl, h1, h⟩ := fitsAll_cons h
  obtain rfl := fitsAll_nil h
  obtain ⟨l, hl, hr, rfl⟩ := fits_ints (e := 3) (by kernel_rfl) (by kernel_rfl) h1
  exact ends_call l ⟨hl, hr⟩
end Go.Proofs.YtcfmanhblonjeaaGreatDoor

