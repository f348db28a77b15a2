/-
  STEP: Target, by the program and by the reference.
  Conditions: none.
-/
import Derived.Test.YtcfmanhblonjeaaGreatDoorGe
import Derived.Test.YtcfmanhblonjeaaGreatDoorGf
import Derived.Test.YtcfmanhblonjeaaGreatDoorGp
import Derived.Test.YtcfmanhblonjeaaGreatDoorGq
import Derived.Test.YtcfmanhblonjeaaGreatDoorGg
import Derived.Test.YtcfmanhblonjeaaGreatDoorGh
import Derived.Test.YtcfmanhblonjeaaGreatDoorP1
import Derived.Test.YtcfmanhblonjeaaGreatDoorP2
import Derived.Test.YtcfmanhblonjeaaGreatDoorP3
import Derived.Test.YtcfmanhblonjeaaGreatDoorGj
import Derived.Test.YtcfmanhblonjeaaGreatDoorGl
import Derived.Test.YtcfmanhblonjeaaGreatDoorQ6
import Derived.Test.YtcfmanhblonjeaaGreatDoorQ7
import Derived.Test.YtcfmanhblonjeaaGreatDoorQ16
import Derived.Test.YtcfmanhblonjeaaGreatDoorQ17
import Derived.Test.YtcfmanhblonjeaaGreatDoorQ18
import Derived.Test.YtcfmanhblonjeaaGreatDoorQ19
import Derived.Test.YtcfmanhblonjeaaGreatDoorQ25
import Derived.Test.YtcfmanhblonjeaaGreatDoorQ26
import Derived.Test.YtcfmanhblonjeaaGreatDoorQ27
import Derived.Test.YtcfmanhblonjeaaGreatDoorR1
import Derived.Test.YtcfmanhblonjeaaGreatDoorR4
import Derived.Test.YtcfmanhblonjeaaGreatDoorR5
import Derived.Test.YtcfmanhblonjeaaGreatDoorR6
import Derived.Test.YtcfmanhblonjeaaGreatDoorR7
import Derived.Test.YtcfmanhblonjeaaGreatDoorShelf
import Derived.Test.YtcfmanhblonjeaaGreatDoorTab
import Derived.Test.YtcfmanhblonjeaaGreatDoorGd
import Derived.Test.YtcfmanhblonjeaaGreatDoorGi
import Derived.Test.YtcfmanhblonjeaaGreatDoorVs30
import Derived.Test.YtcfmanhblonjeaaGreatDoorVs33
import Derived.Test.YtcfmanhblonjeaaGreatDoorVs34
import Derived.Test.YtcfmanhblonjeaaGreatDoorVs35
set_option linter.all false
namespace Go.Stp
open Go.VS
def needP (c : Ce) (q : Qu) : Bool := decide (q.purpose ≠ []) && (decide (0 < c.info.purposes.length) && (!c.info.purposes.contains q.purpose && !c.info.purposes.contains [50, 46, 53, 46, 50, 57, 46, 51, 55, 46, 48]))
def useP (c : Ce) (q : Qu) : Bool := decide (c.info.usage ≠ 0) && decide (bits .and .i64 c.info.usage q.usage ≠ q.usage)
end Go.Stp
namespace Go.Proofs.YtcfmanhblonjeaaGreatDoor
open Go.VS Go.Stp
def wantB (c : Ce) (q : Qu) : Bool := q.names.all fun g => (namesOf c).any fun h => matchGA h g
def targetK (c : Ce) (q : Qu) : Int := if needP c q = true then 13 else if useP c q = true then 13 else if wantB c q = true then 0 else 14
structure WTg (c : Ce) (q : Qu) : Prop where
  sub : WN c.subject
  nms : c.info.names.length ≤ 65536
  pur : c.info.purposes.length ≤ 65536
  len : (namesOf c).length ≤ 65536
  each : ∀ x ∈ namesOf c, WE x
  few : q.names.length ≤ 65536
  want : ∀ x ∈ q.names, WE x
set_option linter.all false
set_option maxRecDepth 100000
set_option maxHeartbeats 16000000
attribute [local irreducible] arun arunD arunU AWp aend bits
theorem target1_call (h g : Gn) (hh : WE h) (hg : WE g) : PCall Tryz.prog 36 [.agg h.c, .rptr g.c] (.bool (matchGA h g)) := by
  have hm := gmatch_call h g hh hg
  rw [show h.c = [.int .i64 h.kind, .str h.text, nmV h.name] from rfl, show g.c = [.int .i64 g.kind, .str g.text, nmV g.name] from rfl] at *
  refine pcall_body Tryz.func36 rfl Tryz.call36 ?_ ?_
  rotate_left 1
  refine awp_slots (s' := (.agg [.int .i64 h.kind, .str h.text, nmV h.name] : V) :: (.rptr [.int .i64 g.kind, .str g.text, nmV g.name] : V) :: zJ 5) rfl ?_; dsimp only [zJ]
  repeat' (first | (refine Y0 rfl fun K9 h9 => ?_; simp (disch := first | exact dd | fail); (try simp (disch := first | exact de | fail) only [X7]); ((first | refine Ap hm ?_ | skip) <;> ((repeat (refine Yz ?_)); (first | refine h9 _ _ (Ys ?_)); clear h9 K9))) | refine Y6 ?_ | (refine Y8 fun K hK => ?_) | refine Y9 ?_ | (apply hK; clear hK K) | (refine Ye ?_; refine Yf ?_) | refine Yg ?_ | (simp only [X0, Nat.reduceBEq]) | clear hK K)
  · exact .pure .bool
  · exact .bool
theorem target_call (c : Ce) (q : Qu) (w : WTg c q) : PCall Tryz.prog 15 [.agg c.c, .agg q.c] (.int .i64 (targetK c q)) := by
  have hc1 := scontains_call c.info.purposes q.purpose w.pur
  have hc2 := scontains_call c.info.purposes [50, 46, 53, 46, 50, 57, 46, 51, 55, 46, 48] w.pur
  have hnm := names_call c w.sub w.nms
  have hlen := w.len
  have hwn := w.each
  have hwq := w.want
  have hqn := w.few
  have hpu := w.pur
  have hcp := Ce.c_pures c
  have hqp := Qu.c_pures q
  have hqc := gens_at q.names
  have hql := gns_len q.names
  have hRn : needP c q = true → targetK c q = 13 := fun h => by unfold targetK; rw [if_pos h]
  have hRu : needP c q = false → useP c q = true → targetK c q = 13 := fun h h2 => by unfold targetK; rw [h, h2]; simp
  have hRw : needP c q = false → useP c q = false → (wantB c q = true → targetK c q = 0) ∧ (wantB c q = false → targetK c q = 14) := fun h h2 => by unfold targetK; rw [h, h2]; exact ⟨fun h3 => by rw [h3]; simp, fun h3 => by rw [h3]; simp⟩
  obtain ⟨R, hR⟩ : ∃ R, targetK c q = R := ⟨_, rfl⟩
  rw [hR] at hRn hRu hRw ⊢
  clear hR w
  rw [Ce.c.eq_1, Qu.c.eq_1] at *
  rw [show strV c.info.purposes = .sl c.info.purposes.length (c.info.purposes.map V.str) from rfl, show gnsV q.names = .sl q.names.length (q.names.flatMap Gn.c) from rfl] at *
  generalize q.names.flatMap Gn.c = qc at *
  obtain ⟨ql, hqll⟩ : ∃ n, q.names.length = n := ⟨_, rfl⟩
  rw [hqll] at hqn hqp hql ⊢
  generalize hpl : c.info.purposes.length = pl at *
  refine pcall_body Tryz.func15 rfl Tryz.call15 ?_ ?_
  rotate_left 1
  refine awp_slots (s' := (.agg [.str c.raw, .str c.tbs, .int .i64 c.serial, nmV c.issuer, nmV c.subject, .int .i64 c.nb, .int .i64 c.na, .int .i64 c.key.h, .str c.key.id, .str c.key.root, .bool c.info.basic, .bool c.info.ca, .int .i64 c.info.plen, .int .i64 c.info.usage, .sl pl (c.info.purposes.map V.str), strV c.info.policies, mpsV c.info.maps, .int .i64 c.info.rexp, .int .i64 c.info.imap, .int .i64 c.info.iany, gnsV c.info.names, .bool c.info.hasC, gnsV c.info.cons.p, gnsV c.info.cons.x, .str c.info.sk, .str c.info.ak, ptsV c.info.points, ptsV c.info.fresh, exsV c.info.unk, .str c.sig] : V) :: (.agg [.int .i64 q.time, .str q.purpose, .int .i64 q.usage, strV q.policies, .bool q.expl, .bool q.nomap, .bool q.noany, .sl ql qc, .int .i64 q.maxlen, .bool q.status, ansV q.issuers] : V) :: zJ 59) rfl ?_; dsimp only [zJ]
  · refine awp_seq fun K hK => ?_
    repeat' (first | ((first | refine Y0 rfl fun K9 h9 => ?_ | (refine Y3 ?_ ?_; (focus (simp; done)); intro K9 h9)); simp (disch := first | exact dd | fail); (try simp (disch := first | exact de | fail) only [X7]); ((repeat (refine Yz ?_)); (first | refine h9 _ _ (Ys ?_)); clear h9 K9)) | refine Y6 ?_ | refine Y9 ?_ | refine Ya ?_ | (refine Yb rfl ?_ ?_ <;> intro hcnd <;> (try simp at hcnd) <;> try exact dc) | refine Yc ?_ | (refine Yd ?_; simp only [X0, Nat.reduceBEq]) | (refine Ye ?_; refine Yf ?_) | (refine Yh ?_ ?_; (focus (simp; done)); refine Ys ?_) | refine Yg ?_ | (simp only [X0, Nat.reduceBEq]))
    refine hK _ _ ?_; clear hK K
    refine awp_seq fun K hK => ?_
    repeat' (first | ((first | refine Y0 rfl fun K9 h9 => ?_ | (refine Y3 ?_ ?_; (focus (simp; done)); intro K9 h9)); simp (disch := first | exact dd | fail); (try simp (disch := first | exact de | fail) only [X7]); ((repeat (refine Yz ?_)); (first | refine h9 _ _ (Ys ?_)); clear h9 K9)) | refine Y6 ?_ | refine Y9 ?_ | refine Ya ?_ | (refine Yb rfl ?_ ?_ <;> intro hcnd <;> (try simp at hcnd) <;> try exact dc) | refine Yc ?_ | (refine Yd ?_; simp only [X0, Nat.reduceBEq]) | (refine Ye ?_; refine Yf ?_) | (refine Yh ?_ ?_; (focus (simp; done)); refine Ys ?_) | refine Yg ?_ | (simp only [X0, Nat.reduceBEq]))
    refine hK _ _ ?_; clear hK K
    refine awp_seqJ fun K1 hK1 hJ1 => ?_
    have main1 : needP c q = false → K1 ((V.junk :: V.junk :: (V.ref 0 0) :: (V.ref 1 0) :: V.junk :: V.junk :: V.junk :: V.junk :: V.junk :: V.junk :: V.junk :: V.junk :: V.junk :: V.junk :: V.junk :: V.junk :: V.junk :: V.junk :: V.junk :: V.junk :: V.junk :: V.junk :: V.junk :: V.junk :: V.junk :: V.junk :: V.junk :: V.junk :: V.junk :: V.junk :: V.junk :: V.junk :: V.junk :: V.junk :: V.junk :: V.junk :: V.junk :: V.junk :: V.junk :: V.junk :: V.junk :: V.junk :: V.junk :: V.junk :: V.junk :: V.junk :: V.junk :: V.junk :: V.junk :: V.junk :: V.junk :: V.junk :: V.junk :: V.junk :: V.junk :: V.junk :: V.junk :: V.junk :: V.junk :: V.junk :: V.junk :: [])) [.live [.str c.raw, .str c.tbs, .int .i64 c.serial, nmV c.issuer, nmV c.subject, .int .i64 c.nb, .int .i64 c.na, .int .i64 c.key.h, .str c.key.id, .str c.key.root, .bool c.info.basic, .bool c.info.ca, .int .i64 c.info.plen, .int .i64 c.info.usage, .sl pl (c.info.purposes.map V.str), strV c.info.policies, mpsV c.info.maps, .int .i64 c.info.rexp, .int .i64 c.info.imap, .int .i64 c.info.iany, gnsV c.info.names, .bool c.info.hasC, gnsV c.info.cons.p, gnsV c.info.cons.x, .str c.info.sk, .str c.info.ak, ptsV c.info.points, ptsV c.info.fresh, exsV c.info.unk, .str c.sig], .live [.int .i64 q.time, .str q.purpose, .int .i64 q.usage, strV q.policies, .bool q.expl, .bool q.nomap, .bool q.noany, .sl ql qc, .int .i64 q.maxlen, .bool q.status, ansV q.issuers]] := by
      intro hnp
      have hU := hRu hnp
      have hW := hRw hnp
      clear hRu hRw hRn
      refine hK1 _ _ ?_
      clear hK1 hJ1 K1 hc1 hc2
      refine awp_seqJ fun K2 hK2 hJ2 => ?_
      have main2 : useP c q = false → K2 ((V.junk :: V.junk :: (V.ref 0 0) :: (V.ref 1 0) :: V.junk :: V.junk :: V.junk :: V.junk :: V.junk :: V.junk :: V.junk :: V.junk :: V.junk :: V.junk :: V.junk :: V.junk :: V.junk :: V.junk :: V.junk :: V.junk :: V.junk :: V.junk :: V.junk :: V.junk :: V.junk :: V.junk :: V.junk :: V.junk :: V.junk :: V.junk :: V.junk :: V.junk :: V.junk :: V.junk :: V.junk :: V.junk :: V.junk :: V.junk :: V.junk :: V.junk :: V.junk :: V.junk :: V.junk :: V.junk :: V.junk :: V.junk :: V.junk :: V.junk :: V.junk :: V.junk :: V.junk :: V.junk :: V.junk :: V.junk :: V.junk :: V.junk :: V.junk :: V.junk :: V.junk :: V.junk :: V.junk :: [])) [.live [.str c.raw, .str c.tbs, .int .i64 c.serial, nmV c.issuer, nmV c.subject, .int .i64 c.nb, .int .i64 c.na, .int .i64 c.key.h, .str c.key.id, .str c.key.root, .bool c.info.basic, .bool c.info.ca, .int .i64 c.info.plen, .int .i64 c.info.usage, .sl pl (c.info.purposes.map V.str), strV c.info.policies, mpsV c.info.maps, .int .i64 c.info.rexp, .int .i64 c.info.imap, .int .i64 c.info.iany, gnsV c.info.names, .bool c.info.hasC, gnsV c.info.cons.p, gnsV c.info.cons.x, .str c.info.sk, .str c.info.ak, ptsV c.info.points, ptsV c.info.fresh, exsV c.info.unk, .str c.sig], .live [.int .i64 q.time, .str q.purpose, .int .i64 q.usage, strV q.policies, .bool q.expl, .bool q.nomap, .bool q.noany, .sl ql qc, .int .i64 q.maxlen, .bool q.status, ansV q.issuers]] := by
        intro hup
        have hY := (hW hup).1
        have hN := (hW hup).2
        clear hW hU
        refine hK2 _ _ ?_
        clear hK2 hJ2 K2
        refine awp_seq fun K hK => ?_
        repeat' (first | ((first | refine Y0 rfl fun K9 h9 => ?_ | (refine Y3 ?_ ?_; (focus (simp; done)); intro K9 h9)); simp (disch := first | exact dd | fail); (try simp (disch := first | exact de | fail) only [X7]); ((first | refine Ap hnm ?_ | skip) <;> ((repeat (refine Yz ?_)); (first | refine h9 _ _ (Ys ?_)); clear h9 K9))) | refine Y6 ?_ | refine Y9 ?_ | refine Ya ?_ | (refine Yb rfl ?_ ?_ <;> intro hcnd <;> (try simp at hcnd) <;> try exact dc) | refine Yc ?_ | (refine Yd ?_; simp only [X0, Nat.reduceBEq]) | (refine Ye ?_; refine Yf ?_) | (refine Yh ?_ ?_; (focus (simp; done)); refine Ys ?_) | refine Yg ?_ | (simp only [X0, Nat.reduceBEq]))
        refine hK _ _ ?_; clear hK K
        refine awp_seq fun K hK => ?_
        refine awp_seq fun K hK => ?_
        repeat' (first | ((first | refine Y0 rfl fun K9 h9 => ?_ | (refine Y3 ?_ ?_; (focus (simp; done)); intro K9 h9)); simp (disch := first | exact dd | fail); (try simp (disch := first | exact de | fail) only [X7]); ((repeat (refine Yz ?_)); (first | refine h9 _ _ (Ys ?_)); clear h9 K9)) | refine Y6 ?_ | refine Y9 ?_ | refine Ya ?_ | (refine Yb rfl ?_ ?_ <;> intro hcnd <;> (try simp at hcnd) <;> try exact dc) | refine Yc ?_ | (refine Yd ?_; simp only [X0, Nat.reduceBEq]) | (refine Ye ?_; refine Yf ?_) | (refine Yh ?_ ?_; (focus (simp; done)); refine Ys ?_) | refine Yg ?_ | (simp only [X0, Nat.reduceBEq]))
        refine hK _ _ ?_; clear hK K
        refine awp_block ?_
        refine awp_loopU (α := Nat) (fun i => (zS 6 (zN 2 (zS 42 (zN 2 (some (V.int .i64 i) :: zS 8 [])))))) (fun i => [.live [.str c.raw, .str c.tbs, .int .i64 c.serial, nmV c.issuer, nmV c.subject, .int .i64 c.nb, .int .i64 c.na, .int .i64 c.key.h, .str c.key.id, .str c.key.root, .bool c.info.basic, .bool c.info.ca, .int .i64 c.info.plen, .int .i64 c.info.usage, .sl pl (c.info.purposes.map V.str), strV c.info.policies, mpsV c.info.maps, .int .i64 c.info.rexp, .int .i64 c.info.imap, .int .i64 c.info.iany, gnsV c.info.names, .bool c.info.hasC, gnsV c.info.cons.p, gnsV c.info.cons.x, .str c.info.sk, .str c.info.ak, ptsV c.info.points, ptsV c.info.fresh, exsV c.info.unk, .str c.sig], .live [.int .i64 q.time, .str q.purpose, .int .i64 q.usage, strV q.policies, .bool q.expl, .bool q.nomap, .bool q.noany, .sl ql qc, .int .i64 q.maxlen, .bool q.status, ansV q.issuers]]) (fun i => i ≤ ql ∧ ∀ j (h : j < q.names.length), j < i → (namesOf c).any (fun h => matchGA h q.names[j]) = true) (fun i => ql - i) 0 ⟨by omega, fun j _ h => by omega⟩ ?_ ?_
        · dsimp only [ups, zN, zS]
          exact Yr [some 0, some 1] (by simp [rowsOver, rowRen_live, rens_pures hcp, rens_pures hqp])
        rintro i ⟨hi, hall⟩ KL hL
        dsimp only [ups, zN, zS]
        rcases Nat.lt_or_ge i ql with hi | hi
        · have hiq : i < q.names.length := by omega
          have hg := hqc i hiq
          have hw := hwq _ (List.getElem_mem hiq)
          have hstep : (namesOf c).any (fun h => matchGA h q.names[i]) = true → i + 1 ≤ ql ∧ ∀ j (h : j < q.names.length), j < i + 1 → (namesOf c).any (fun h => matchGA h q.names[j]) = true := fun hx => ⟨by omega, fun j hj h => by
            rcases Nat.lt_or_ge j i with h3 | h3
            · exact hall j hj h3
            · obtain rfl : j = i := by omega
              exact hx⟩
          have hbad : (namesOf c).any (fun h => matchGA h q.names[i]) = false → R = 14 := fun h => hN (by unfold wantB; exact all_false' hiq h)
          obtain ⟨g, hgg⟩ : ∃ g, q.names[i] = g := ⟨_, rfl⟩
          rw [hgg] at hg hw hstep hbad
          have hct := gcontains_call (namesOf c) 36 g.c (fun h => matchGA h g) hlen fun x hx => target1_call x g (hwn x hx) hw
          rw [show g.c = [.int .i64 g.kind, .str g.text, nmV g.name] from rfl] at hg hct
          clear hK
          cases h1 : (namesOf c).any (fun h => matchGA h g)
          · rw [h1] at hct
            repeat' (first | ((first | refine Y0 rfl fun K9 h9 => ?_ | (refine Y3 ?_ ?_; (focus (simp [hg, hql]; done)); intro K9 h9)); simp (disch := first | exact dd | fail) [hg, hql]; (try simp (disch := first | exact de | fail) only [X7]); ((first | refine acall_view hct ⟨.pure (by simp), view_fn ⟨view_ref rfl (by simp) (by simp), trivial⟩, trivial⟩ .bool ?_ | skip) <;> ((repeat (refine Yz ?_)); (first | refine h9 _ _ (Ys ?_)); clear h9 K9))) | refine Y6 ?_ | (refine Y8 fun K hK => ?_) | refine Y9 ?_ | (apply hK; clear hK K) | refine Ya ?_ | (refine Yb rfl ?_ ?_ <;> intro hcnd <;> (try simp at hcnd) <;> try exact dc) | refine Yc ?_ | (refine Yd ?_; simp only [X0, Nat.reduceBEq]) | (refine Ye ?_; refine Yf ?_) | (refine Yh ?_ ?_; (focus (simp [hg, hql]; done)); refine Ys ?_) | refine Yg ?_ | (simp only [X0, Nat.reduceBEq]) | clear hK K)
            rw [hbad h1]
            exact .pure .int
          · rw [h1] at hct
            repeat' (first | ((first | refine Y0 rfl fun K9 h9 => ?_ | (refine Y3 ?_ ?_; (focus (simp [hg, hql]; done)); intro K9 h9)); simp (disch := first | exact dd | fail) [hg, hql]; (try simp (disch := first | exact de | fail) only [X7]); ((first | refine acall_view hct ⟨.pure (by simp), view_fn ⟨view_ref rfl (by simp) (by simp), trivial⟩, trivial⟩ .bool ?_ | skip) <;> ((repeat (refine Yz ?_)); (first | refine h9 _ _ (Ys ?_)); clear h9 K9))) | refine Y6 ?_ | (refine Y8 fun K hK => ?_) | refine Y9 ?_ | (apply hK; clear hK K) | refine Ya ?_ | (refine Yb rfl ?_ ?_ <;> intro hcnd <;> (try simp at hcnd) <;> try exact dc) | refine Yc ?_ | (refine Yd ?_; simp only [X0, Nat.reduceBEq]) | (refine Ye ?_; refine Yf ?_) | (refine Yh ?_ ?_; (focus (simp [hg, hql]; done)); refine Ys ?_) | refine Yg ?_ | (simp only [X0, Nat.reduceBEq]) | clear hK K)
            refine hL (i + 1) _ _ (hstep h1) (by omega) ?_
            exact Yr [some 0, some 1] (by simp [rowsOver, rowRen_live, rens_pures hcp, rens_pures hqp])
        · clear hL
          have hr := hY (by unfold wantB; exact all_true' fun j hj => hall j hj (by omega))
          repeat' (first | ((first | refine Y0 rfl fun K9 h9 => ?_ | (refine Y3 ?_ ?_; (focus (simp; done)); intro K9 h9)); simp (disch := first | exact dd | fail); (try simp (disch := first | exact de | fail) only [X7]); ((repeat (refine Yz ?_)); (first | refine h9 _ _ (Ys ?_)); clear h9 K9)) | refine Y6 ?_ | (refine Y8 fun K hK => ?_) | refine Y9 ?_ | (apply hK; clear hK K) | refine Ya ?_ | (refine Yb rfl ?_ ?_ <;> intro hcnd <;> (try simp at hcnd) <;> try exact dc) | refine Yc ?_ | (refine Yd ?_; simp only [X0, Nat.reduceBEq]) | (refine Ye ?_; refine Yf ?_) | (refine Yh ?_ ?_; (focus (simp; done)); refine Ys ?_) | refine Yg ?_ | (simp only [X0, Nat.reduceBEq]) | clear hK K)
          rw [hr]
          exact .pure .int
      by_cases hu1 : c.info.usage = 0
      · repeat' (first | ((first | refine Yl rfl fun K9 h9 => ?_ | (refine Ym ?_ ?_; (focus (simp [hu1]; done)); intro K9 h9)); simp (disch := first | exact dd | fail) [hu1]; (try simp (disch := first | exact de | fail) only [X7]); ((repeat (refine Yz ?_)); (first | refine h9 _ _ (Yp ?_)); clear h9 K9)) | refine Yo ?_ | (refine Y8 fun K hK => ?_) | refine Yq ?_ | (apply hK; clear hK K) | refine Ya ?_ | (refine Yb rfl ?_ ?_ <;> intro hcnd <;> (try simp at hcnd) <;> try exact dc) | refine Yc ?_ | (refine Yd ?_; simp only [X0, Nat.reduceBEq]) | (refine Ye ?_; refine Yf ?_) | (refine Yn ?_ ?_; (focus (simp [hu1]; done)); refine Yp ?_) | refine Yg ?_ | (simp only [X0, Nat.reduceBEq]) | clear hK K)
        refine hJ2.le _ _ _ _ ?_ (main2 (by unfold useP; simp [hu1]))
        exact Yr [some 0, some 1] (by simp [rowsOver, rowRen_live, rens_pures hcp, rens_pures hqp, hu1])
      · by_cases hu2 : bits .and .i64 c.info.usage q.usage = q.usage
        · repeat' (first | ((first | refine Yl rfl fun K9 h9 => ?_ | (refine Ym ?_ ?_; (focus (simp [hu1, hu2]; done)); intro K9 h9)); simp (disch := first | exact dd | fail) [hu1, hu2]; (try simp (disch := first | exact de | fail) only [X7]); ((repeat (refine Yz ?_)); (first | refine h9 _ _ (Yp ?_)); clear h9 K9)) | refine Yo ?_ | (refine Y8 fun K hK => ?_) | refine Yq ?_ | (apply hK; clear hK K) | refine Ya ?_ | (refine Yb rfl ?_ ?_ <;> intro hcnd <;> (try simp at hcnd) <;> try exact dc) | refine Yc ?_ | (refine Yd ?_; simp only [X0, Nat.reduceBEq]) | (refine Ye ?_; refine Yf ?_) | (refine Yn ?_ ?_; (focus (simp [hu1, hu2]; done)); refine Yp ?_) | refine Yg ?_ | (simp only [X0, Nat.reduceBEq]) | clear hK K)
          refine hJ2.le _ _ _ _ ?_ (main2 (by unfold useP; simp [hu2]))
          exact Yr [some 0, some 1] (by simp [rowsOver, rowRen_live, rens_pures hcp, rens_pures hqp])
        · repeat' (first | ((first | refine Yl rfl fun K9 h9 => ?_ | (refine Ym ?_ ?_; (focus (simp [hu1, hu2]; done)); intro K9 h9)); simp (disch := first | exact dd | fail) [hu1, hu2]; (try simp (disch := first | exact de | fail) only [X7]); ((repeat (refine Yz ?_)); (first | refine h9 _ _ (Yp ?_)); clear h9 K9)) | refine Yo ?_ | (refine Y8 fun K hK => ?_) | refine Yq ?_ | (apply hK; clear hK K) | refine Ya ?_ | (refine Yb rfl ?_ ?_ <;> intro hcnd <;> (try simp at hcnd) <;> try exact dc) | refine Yc ?_ | (refine Yd ?_; simp only [X0, Nat.reduceBEq]) | (refine Ye ?_; refine Yf ?_) | (refine Yn ?_ ?_; (focus (simp [hu1, hu2]; done)); refine Yp ?_) | refine Yg ?_ | (simp only [X0, Nat.reduceBEq]) | clear hK K)
          rw [hU (by unfold useP; simp [hu1, hu2])]
          exact .pure .int
    have hz : ∀ {b : Bool}, needP c q = b → (b = true → R = 13) := fun h e => hRn (by rw [h]; exact e)
    by_cases h1 : q.purpose = []
    · repeat' (first | ((first | refine Yl rfl fun K9 h9 => ?_ | (refine Ym ?_ ?_; (focus (simp [h1]; done)); intro K9 h9)); simp (disch := first | exact dd | fail) [h1]; (try simp (disch := first | exact de | fail) only [X7]); ((repeat (refine Yz ?_)); (first | refine h9 _ _ (Yp ?_)); clear h9 K9)) | refine Yo ?_ | (refine Y8 fun K hK => ?_) | refine Yq ?_ | (apply hK; clear hK K) | refine Ya ?_ | (refine Yb rfl ?_ ?_ <;> intro hcnd <;> (try simp at hcnd) <;> try exact dc) | refine Yc ?_ | (refine Yd ?_; simp only [X0, Nat.reduceBEq]) | (refine Ye ?_; refine Yf ?_) | (refine Yn ?_ ?_; (focus (simp [h1]; done)); refine Yp ?_) | refine Yg ?_ | (simp only [X0, Nat.reduceBEq]) | clear hK K)
      refine hJ1.le _ _ _ _ ?_ (main1 (by unfold needP; simp [h1]))
      exact Yr [some 0, some 1] (by simp [rowsOver, rowRen_live, rens_pures hcp, rens_pures hqp, h1])
    by_cases h2 : pl = 0
    · repeat' (first | ((first | refine Yl rfl fun K9 h9 => ?_ | (refine Ym ?_ ?_; (focus (simp [h1, h2]; done)); intro K9 h9)); simp (disch := first | exact dd | fail) [h1, h2]; (try simp (disch := first | exact de | fail) only [X7]); ((repeat (refine Yz ?_)); (first | refine h9 _ _ (Yp ?_)); clear h9 K9)) | refine Yo ?_ | (refine Y8 fun K hK => ?_) | refine Yq ?_ | (apply hK; clear hK K) | refine Ya ?_ | (refine Yb rfl ?_ ?_ <;> intro hcnd <;> (try simp at hcnd) <;> try exact dc) | refine Yc ?_ | (refine Yd ?_; simp only [X0, Nat.reduceBEq]) | (refine Ye ?_; refine Yf ?_) | (refine Yn ?_ ?_; (focus (simp [h1, h2]; done)); refine Yp ?_) | refine Yg ?_ | (simp only [X0, Nat.reduceBEq]) | clear hK K)
      refine hJ1.le _ _ _ _ ?_ (main1 (by unfold needP; simp [hpl, h2]))
      exact Yr [some 0, some 1] (by simp [rowsOver, rowRen_live, rens_pures hcp, rens_pures hqp, h2])
    have h2p : 0 < pl := by omega
    cases h3 : c.info.purposes.contains q.purpose
    · cases h4 : c.info.purposes.contains [50, 46, 53, 46, 50, 57, 46, 51, 55, 46, 48]
      · rw [h3] at hc1
        rw [h4] at hc2
        repeat' (first | ((first | refine Yl rfl fun K9 h9 => ?_ | (refine Ym ?_ ?_; (focus (simp [h1, h2p]; done)); intro K9 h9)); simp (disch := first | exact dd | fail) [h1, h2p]; (try simp (disch := first | exact de | fail) only [X7]); ((first | refine Ap hc1 ?_ | refine Ap hc2 ?_ | skip) <;> ((repeat (refine Yz ?_)); (first | refine h9 _ _ (Yp ?_)); clear h9 K9))) | refine Yo ?_ | (refine Y8 fun K hK => ?_) | refine Yq ?_ | (apply hK; clear hK K) | refine Ya ?_ | (refine Yb rfl ?_ ?_ <;> intro hcnd <;> (try simp at hcnd) <;> try exact dc) | refine Yc ?_ | (refine Yd ?_; simp only [X0, Nat.reduceBEq]) | (refine Ye ?_; refine Yf ?_) | (refine Yn ?_ ?_; (focus (simp [h1, h2p]; done)); refine Yp ?_) | refine Yg ?_ | (simp only [X0, Nat.reduceBEq]) | clear hK K)
        rw [hRn (by unfold needP; simp only [h3, h4, hpl]; simp [h1]; omega)]
        exact .pure .int
      · rw [h3] at hc1
        rw [h4] at hc2
        repeat' (first | ((first | refine Yl rfl fun K9 h9 => ?_ | (refine Ym ?_ ?_; (focus (simp [h1, h2p]; done)); intro K9 h9)); simp (disch := first | exact dd | fail) [h1, h2p]; (try simp (disch := first | exact de | fail) only [X7]); ((first | refine Ap hc1 ?_ | refine Ap hc2 ?_ | skip) <;> ((repeat (refine Yz ?_)); (first | refine h9 _ _ (Yp ?_)); clear h9 K9))) | refine Yo ?_ | (refine Y8 fun K hK => ?_) | refine Yq ?_ | (apply hK; clear hK K) | refine Ya ?_ | (refine Yb rfl ?_ ?_ <;> intro hcnd <;> (try simp at hcnd) <;> try exact dc) | refine Yc ?_ | (refine Yd ?_; simp only [X0, Nat.reduceBEq]) | (refine Ye ?_; refine Yf ?_) | (refine Yn ?_ ?_; (focus (simp [h1, h2p]; done)); refine Yp ?_) | refine Yg ?_ | (simp only [X0, Nat.reduceBEq]) | clear hK K)
        refine hJ1.le _ _ _ _ ?_ (main1 (by unfold needP; simp only [h3, h4]; simp))
        exact Yr [some 0, some 1] (by simp [rowsOver, rowRen_live, rens_pures hcp, rens_pures hqp])
    · rw [h3] at hc1
      repeat' (first | ((first | refine Yl rfl fun K9 h9 => ?_ | (refine Ym ?_ ?_; (focus (simp [h1, h2p]; done)); intro K9 h9)); simp (disch := first | exact dd | fail) [h1, h2p]; (try simp (disch := first | exact de | fail) only [X7]); ((first | refine Ap hc1 ?_ | skip) <;> ((repeat (refine Yz ?_)); (first | refine h9 _ _ (Yp ?_)); clear h9 K9))) | refine Yo ?_ | (refine Y8 fun K hK => ?_) | refine Yq ?_ | (apply hK; clear hK K) | refine Ya ?_ | (refine Yb rfl ?_ ?_ <;> intro hcnd <;> (try simp at hcnd) <;> try exact dc) | refine Yc ?_ | (refine Yd ?_; simp only [X0, Nat.reduceBEq]) | (refine Ye ?_; refine Yf ?_) | (refine Yn ?_ ?_; (focus (simp [h1, h2p]; done)); refine Yp ?_) | refine Yg ?_ | (simp only [X0, Nat.reduceBEq]) | clear hK K)
      refine hJ1.le _ _ _ _ ?_ (main1 (by unfold needP; simp only [h3]; simp))
      exact Yr [some 0, some 1] (by simp [rowsOver, rowRen_live, rens_pures hcp, rens_pures hqp])
  · exact .int
end Go.Proofs.YtcfmanhblonjeaaGreatDoor

