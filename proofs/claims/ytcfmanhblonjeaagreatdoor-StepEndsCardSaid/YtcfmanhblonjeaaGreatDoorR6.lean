/-
  STEP: general names matched by the program; the names of a certificate.
  Conditions: none.
-/
import Derived.Test.YtcfmanhblonjeaaGreatDoorGe
import Derived.Test.YtcfmanhblonjeaaGreatDoorGf
import Derived.Test.YtcfmanhblonjeaaGreatDoorGp
import Derived.Test.YtcfmanhblonjeaaGreatDoorGq
import Derived.Test.YtcfmanhblonjeaaGreatDoorGg
import Derived.Test.YtcfmanhblonjeaaGreatDoorGh
import Derived.Test.YtcfmanhblonjeaaGreatDoorP1
import Derived.Test.YtcfmanhblonjeaaGreatDoorP2
import Derived.Test.YtcfmanhblonjeaaGreatDoorP3
import Derived.Test.YtcfmanhblonjeaaGreatDoorGj
import Derived.Test.YtcfmanhblonjeaaGreatDoorGl
import Derived.Test.YtcfmanhblonjeaaGreatDoorQ6
import Derived.Test.YtcfmanhblonjeaaGreatDoorQ7
import Derived.Test.YtcfmanhblonjeaaGreatDoorQ16
import Derived.Test.YtcfmanhblonjeaaGreatDoorQ17
import Derived.Test.YtcfmanhblonjeaaGreatDoorQ18
import Derived.Test.YtcfmanhblonjeaaGreatDoorQ19
import Derived.Test.YtcfmanhblonjeaaGreatDoorQ25
import Derived.Test.YtcfmanhblonjeaaGreatDoorQ26
import Derived.Test.YtcfmanhblonjeaaGreatDoorQ27
import Derived.Test.YtcfmanhblonjeaaGreatDoorR1
import Derived.Test.YtcfmanhblonjeaaGreatDoorR4
import Derived.Test.YtcfmanhblonjeaaGreatDoorShelf
import Derived.Test.YtcfmanhblonjeaaGreatDoorTab
import Derived.Test.YtcfmanhblonjeaaGreatDoorGd
import Derived.Test.YtcfmanhblonjeaaGreatDoorGi
import Derived.Test.YtcfmanhblonjeaaGreatDoorVs30
import Derived.Test.YtcfmanhblonjeaaGreatDoorVs33
import Derived.Test.YtcfmanhblonjeaaGreatDoorVs34
import Derived.Test.YtcfmanhblonjeaaGreatDoorVs35
set_option linter.all false
namespace Go.Stp
open Go.VS
def mailA (a : At) : List Gn := if a.t = [49, 46, 50, 46, 56, 52, 48, 46, 49, 49, 51, 53, 52, 57, 46, 49, 46, 57, 46, 49] then [⟨1, a.v, []⟩] else []
def mailR (r : List At) : List Gn := r.flatMap mailA
def mailsOf (n : Nm) : List Gn := n.flatMap mailR
def baseOf (c : Ce) : List Gn := c.info.names ++ if c.subject.length = 0 then [] else [⟨4, [], c.subject⟩]
def namesOf (c : Ce) : List Gn := baseOf c ++ mailsOf c.subject
theorem flat_take {α β : Type} (f : α → List β) {l : List α} {i : Nat} (h : i < l.length) : (l.take (i + 1)).flatMap f = (l.take i).flatMap f ++ f l[i] := by
  rw [List.take_succ_eq_append_getElem h, List.flatMap_append]; simp
theorem mailA_len (a : At) : (mailA a).length ≤ 1 := by unfold mailA; split <;> simp
theorem gns_nz (Y : List Gn) : (Y.flatMap Gn.c).map nz = Y.flatMap Gn.c := by
  induction Y with
  | nil => rfl
  | cons a Y ih => rw [List.flatMap_cons, List.map_append, ih]; simp [Gn.c, nz]
end Go.Stp
namespace Go.Proofs.YtcfmanhblonjeaaGreatDoor
open Go.VS Go.Stp
set_option linter.all false
set_option maxRecDepth 100000
set_option maxHeartbeats 16000000
attribute [local irreducible] arun arunD arunU AWp aend
theorem gmatch_call (a b : Gn) (ha : WE a) (hb : WE b) : PCall Tryz.prog 37 [.agg a.c, .agg b.c] (.bool (matchGA a b)) := by
  have hs := gsamea_call a b ha hb
  have ht := ha.2
  have ht2 := hb.2
  have hd := Ho.match_call a.text b.text (by omega) (by omega)
  rw [show a.c = [.int .i64 a.kind, .str a.text, nmV a.name] from rfl, show b.c = [.int .i64 b.kind, .str b.text, nmV b.name] from rfl] at *
  unfold matchGA
  refine pcall_body Tryz.func37 rfl Tryz.call37 ?_ ?_
  rotate_left 1
  refine awp_slots (s' := (.agg [.int .i64 a.kind, .str a.text, nmV a.name] : V) :: (.agg [.int .i64 b.kind, .str b.text, nmV b.name] : V) :: zJ 19) rfl ?_; dsimp only [zJ]
  by_cases k1 : a.kind = 2
  · by_cases k2 : b.kind = 2
    · rw [if_pos ⟨k1, k2⟩]
      repeat' (first | ((first | refine Yl rfl fun K9 h9 => ?_ | (refine Ym ?_ ?_; (focus (simp [k1, k2]; done)); intro K9 h9)); simp (disch := first | exact dd | fail) [k1, k2]; (try simp (disch := first | exact de | fail) only [X7]); ((first | refine Ap hd ?_ | refine Ap hs ?_ | skip) <;> ((repeat (refine Yz ?_)); (first | refine h9 _ _ (Yp ?_)); clear h9 K9))) | refine Yo ?_ | (refine Y8 fun K hK => ?_) | refine Yq ?_ | (apply hK; clear hK K) | (refine Yb rfl ?_ ?_ <;> intro hcnd <;> (try simp at hcnd) <;> try exact dc) | refine Yc ?_ | (refine Ye ?_; refine Yf ?_) | (refine Yn ?_ ?_; (focus (simp [k1, k2]; done)); refine Yp ?_) | refine Yg ?_ | (simp only [X0, Nat.reduceBEq]) | clear hK K)
      exact .pure .bool
    · rw [if_neg fun h => k2 h.2]
      rw [k1] at hs
      repeat' (first | ((first | refine Yl rfl fun K9 h9 => ?_ | (refine Ym ?_ ?_; (focus (simp [k1, k2]; done)); intro K9 h9)); simp (disch := first | exact dd | fail) [k1, k2]; (try simp (disch := first | exact de | fail) only [X7]); ((first | refine Ap hd ?_ | refine Ap hs ?_ | skip) <;> ((repeat (refine Yz ?_)); (first | refine h9 _ _ (Yp ?_)); clear h9 K9))) | refine Yo ?_ | (refine Y8 fun K hK => ?_) | refine Yq ?_ | (apply hK; clear hK K) | (refine Yb rfl ?_ ?_ <;> intro hcnd <;> (try simp at hcnd) <;> try exact dc) | refine Yc ?_ | (refine Ye ?_; refine Yf ?_) | (refine Yn ?_ ?_; (focus (simp [k1, k2]; done)); refine Yp ?_) | refine Yg ?_ | (simp only [X0, Nat.reduceBEq]) | clear hK K)
      exact .pure .bool
  · rw [if_neg fun h => k1 h.1]
    repeat' (first | ((first | refine Yl rfl fun K9 h9 => ?_ | (refine Ym ?_ ?_; (focus (simp [k1]; done)); intro K9 h9)); simp (disch := first | exact dd | fail) [k1]; (try simp (disch := first | exact de | fail) only [X7]); ((first | refine Ap hd ?_ | refine Ap hs ?_ | skip) <;> ((repeat (refine Yz ?_)); (first | refine h9 _ _ (Yp ?_)); clear h9 K9))) | refine Yo ?_ | (refine Y8 fun K hK => ?_) | refine Yq ?_ | (apply hK; clear hK K) | (refine Yb rfl ?_ ?_ <;> intro hcnd <;> (try simp at hcnd) <;> try exact dc) | refine Yc ?_ | (refine Ye ?_; refine Yf ?_) | (refine Yn ?_ ?_; (focus (simp [k1]; done)); refine Yp ?_) | refine Yg ?_ | (simp only [X0, Nat.reduceBEq]) | clear hK K)
    exact .pure .bool
  exact .bool
theorem names_call (c : Ce) (hs : WN c.subject) (hg : c.info.names.length ≤ 65536) : PCall Tryz.prog 34 [.agg c.c] (gnsV (namesOf c)) := by
  have hcl := clonew_gens c.info.names.length (c.info.names.flatMap Gn.c) (gns_len _) (by omega) (flat_one Gn.c_one _) (gns_pures _)
  have hbo : (baseOf c).length ≤ 65537 := by unfold baseOf; rw [List.length_append]; split <;> simp <;> omega
  have hgl := gns_len c.info.names
  have hgp := gns_pures c.info.names
  have hcp := Ce.c_pures c
  have hbc : (baseOf c).flatMap Gn.c = c.info.names.flatMap Gn.c ++ if c.subject.length = 0 then [] else [.int .i64 4, .str [], .sl c.subject.length (c.subject.map atsV)] := by
    unfold baseOf; rw [List.flatMap_append]; split <;> simp [Gn.c]
  have hbl : (baseOf c).length = c.info.names.length + if c.subject.length = 0 then 0 else 1 := by unfold baseOf; rw [List.length_append]; split <;> simp
  have hsn := hs.1
  have hsr := hs.2
  unfold namesOf mailsOf
  generalize baseOf c = B at *
  rw [Ce.c.eq_1] at *
  rw [show nmV c.subject = .sl c.subject.length (c.subject.map atsV) from rfl, show gnsV c.info.names = .sl c.info.names.length (c.info.names.flatMap Gn.c) from rfl] at *
  generalize c.info.names.flatMap Gn.c = mc at *
  generalize hns : c.subject = S at *
  generalize hn : S.length = n at *
  generalize c.info.names.length = m at *
  refine pcall_body Tryz.func34 rfl Tryz.call34 ?_ ?_
  rotate_left 1
  refine awp_slots (s' := (.agg [.str c.raw, .str c.tbs, .int .i64 c.serial, nmV c.issuer, .sl n (S.map atsV), .int .i64 c.nb, .int .i64 c.na, .int .i64 c.key.h, .str c.key.id, .str c.key.root, .bool c.info.basic, .bool c.info.ca, .int .i64 c.info.plen, .int .i64 c.info.usage, strV c.info.purposes, strV c.info.policies, mpsV c.info.maps, .int .i64 c.info.rexp, .int .i64 c.info.imap, .int .i64 c.info.iany, .sl m mc, .bool c.info.hasC, gnsV c.info.cons.p, gnsV c.info.cons.x, .str c.info.sk, .str c.info.ak, ptsV c.info.points, ptsV c.info.fresh, exsV c.info.unk, .str c.sig] : V) :: zJ 48) rfl ?_; dsimp only [zJ]
  · refine awp_seq fun K hK => ?_
    repeat' (first | (refine Y0 rfl fun K9 h9 => ?_; simp (disch := first | exact dd | fail); (try simp (disch := first | exact de | fail) only [X7]); ((first | refine acall_nsl hcl hgp (by simp) ?_ | skip) <;> ((repeat (refine Yz ?_)); (first | refine h9 _ _ (Ys ?_)); clear h9 K9))) | refine Y6 ?_ | refine Y9 ?_ | refine Ya ?_ | (refine Yb rfl ?_ ?_ <;> intro hcnd <;> (try simp at hcnd) <;> try exact dc) | refine Yc ?_ | (refine Yd ?_; simp only [X0, Nat.reduceBEq]) | (refine Ye ?_; refine Yf ?_) | refine Yg ?_ | (simp only [X0, Nat.reduceBEq]))
    refine hK _ _ ?_; clear hK K
    refine awp_seq fun K hK => ?_
    repeat' (first | (refine Y0 rfl fun K9 h9 => ?_; simp (disch := first | exact dd | fail); (try simp (disch := first | exact de | fail) only [X7]); ((first | refine acall_nsl hcl hgp (by simp) ?_ | skip) <;> ((repeat (refine Yz ?_)); (first | refine h9 _ _ (Ys ?_)); clear h9 K9))) | refine Y6 ?_ | refine Y9 ?_ | refine Ya ?_ | (refine Yb rfl ?_ ?_ <;> intro hcnd <;> (try simp at hcnd) <;> try exact dc) | refine Yc ?_ | (refine Yd ?_; simp only [X0, Nat.reduceBEq]) | (refine Ye ?_; refine Yf ?_) | refine Yg ?_ | (simp only [X0, Nat.reduceBEq]))
    refine hK _ _ ?_; clear hK K
    refine awp_seqJ fun K1 hK1 hJ1 => ?_
    have main1 : K1 ([.junk, .ref 0 0, .junk, .osl 1 0 B.length 3, .junk, .junk, .junk, .junk, .junk, .junk, .junk, .junk, .junk, .junk, .junk, .junk, .junk, .junk, .junk, .junk, .junk, .junk, .junk, .junk, .junk, .junk, .junk, .junk, .junk, .junk, .junk, .junk, .junk, .junk, .junk, .junk, .junk, .junk, .junk, .junk, .junk, .junk, .junk, .junk, .junk, .junk, .junk, .junk, .junk]) [.live [.str c.raw, .str c.tbs, .int .i64 c.serial, nmV c.issuer, .sl n (S.map atsV), .int .i64 c.nb, .int .i64 c.na, .int .i64 c.key.h, .str c.key.id, .str c.key.root, .bool c.info.basic, .bool c.info.ca, .int .i64 c.info.plen, .int .i64 c.info.usage, strV c.info.purposes, strV c.info.policies, mpsV c.info.maps, .int .i64 c.info.rexp, .int .i64 c.info.imap, .int .i64 c.info.iany, .sl m mc, .bool c.info.hasC, gnsV c.info.cons.p, gnsV c.info.cons.x, .str c.info.sk, .str c.info.ak, ptsV c.info.points, ptsV c.info.fresh, exsV c.info.unk, .str c.sig], .live (B.flatMap Gn.c)] := by
      refine hK1 _ _ ?_
      clear hK1 hJ1 K1 hbc hbl hcl
      refine awp_seq fun K hK => ?_
      refine awp_seq fun K hK => ?_
      repeat' (first | (refine Y0 rfl fun K9 h9 => ?_; simp (disch := first | exact dd | fail); (try simp (disch := first | exact de | fail) only [X7]); ((repeat (refine Yz ?_)); (first | refine h9 _ _ (Ys ?_)); clear h9 K9)) | refine Y6 ?_ | refine Y9 ?_ | refine Ya ?_ | (refine Yb rfl ?_ ?_ <;> intro hcnd <;> (try simp at hcnd) <;> try exact dc) | refine Yc ?_ | (refine Yd ?_; simp only [X0, Nat.reduceBEq]) | (refine Ye ?_; refine Yf ?_) | refine Yg ?_ | (simp only [X0, Nat.reduceBEq]))
      refine hK _ _ ?_; clear hK K
      refine awp_block ?_
      refine awp_loopU (α := Nat × List Gn) (fun q => (zS 3 (some (V.osl 1 0 q.2.length 3) :: none :: some V.junk :: none :: zS 18 (zN 2 (some (V.int .i64 q.1) :: zS 21 []))))) (fun q => [.live [.str c.raw, .str c.tbs, .int .i64 c.serial, nmV c.issuer, .sl n (S.map atsV), .int .i64 c.nb, .int .i64 c.na, .int .i64 c.key.h, .str c.key.id, .str c.key.root, .bool c.info.basic, .bool c.info.ca, .int .i64 c.info.plen, .int .i64 c.info.usage, strV c.info.purposes, strV c.info.policies, mpsV c.info.maps, .int .i64 c.info.rexp, .int .i64 c.info.imap, .int .i64 c.info.iany, .sl m mc, .bool c.info.hasC, gnsV c.info.cons.p, gnsV c.info.cons.x, .str c.info.sk, .str c.info.ak, ptsV c.info.points, ptsV c.info.fresh, exsV c.info.unk, .str c.sig], .live (q.2.flatMap Gn.c)]) (fun q => q.1 ≤ n ∧ q.2 = B ++ (S.take q.1).flatMap mailR ∧ q.2.length ≤ 65537 + q.1 * 65536) (fun q => n - q.1) (0, B) ⟨by omega, by simp, by dsimp only; omega⟩ ?_ ?_
      · dsimp only [ups, zN, zS]
        exact Yr [some 0, some 1] (by simp [rowsOver, rowRen_live, rens_pures hcp, rens_pures (gns_pures _)])
      rintro ⟨i, X⟩ ⟨hi, hX, hXl⟩ KL hL
      dsimp only at hi hX hXl
      dsimp only [ups, zN, zS]
      rcases Nat.lt_or_ge i n with hi | hi
      · have hSi : i < S.length := by omega
        have hr1 := (hsr _ (List.getElem_mem hSi)).1
        have hnext := flat_take mailR hSi
        obtain ⟨r, hr⟩ : ∃ r, S[i] = r := ⟨_, rfl⟩
        rw [hr] at hr1 hnext
        clear hK
        repeat' (first | (refine Y0 rfl fun K9 h9 => ?_; simp (disch := first | exact dd | fail) [hr, atsV]; (try simp (disch := first | exact de | fail) only [X7]); ((repeat (refine Yz ?_)); (first | refine h9 _ _ (Ys ?_)); clear h9 K9)) | refine Y6 ?_ | (refine Y8 fun K hK => ?_) | refine Y9 ?_ | (apply hK; clear hK K) | refine Ya ?_ | (refine Yb rfl ?_ ?_ <;> intro hcnd <;> (try simp at hcnd) <;> try exact dc) | refine Yc ?_ | (refine Yd ?_; simp only [X0, Nat.reduceBEq]) | (refine Ye ?_; refine Yf ?_) | refine Yg ?_ | (simp only [X0, Nat.reduceBEq]) | clear hK K)
        refine awp_loopU (α := Nat × List Gn) (fun q => (zS 3 (some (V.osl 1 0 q.2.length 3) :: none :: some V.junk :: none :: zS 18 (zN 3 (zS 3 (zN 2 (some (V.int .i64 q.1) :: zS 15 []))))))) (fun q => [.live [.str c.raw, .str c.tbs, .int .i64 c.serial, nmV c.issuer, .sl n (S.map atsV), .int .i64 c.nb, .int .i64 c.na, .int .i64 c.key.h, .str c.key.id, .str c.key.root, .bool c.info.basic, .bool c.info.ca, .int .i64 c.info.plen, .int .i64 c.info.usage, strV c.info.purposes, strV c.info.policies, mpsV c.info.maps, .int .i64 c.info.rexp, .int .i64 c.info.imap, .int .i64 c.info.iany, .sl m mc, .bool c.info.hasC, gnsV c.info.cons.p, gnsV c.info.cons.x, .str c.info.sk, .str c.info.ak, ptsV c.info.points, ptsV c.info.fresh, exsV c.info.unk, .str c.sig], .live (q.2.flatMap Gn.c)]) (fun q => q.1 ≤ r.length ∧ q.2 = X ++ (r.take q.1).flatMap mailA ∧ q.2.length ≤ 65537 + i * 65536 + q.1) (fun q => r.length - q.1) (0, X) ⟨by omega, by simp, by dsimp only; omega⟩ ?_ ?_
        · dsimp only [ups, zN, zS]
          exact Yr [some 0, some 1] (by simp [rowsOver, rowRen_live, rens_pures hcp, rens_pures (gns_pures _)])
        rintro ⟨k, Y⟩ ⟨hk, hY, hYl⟩ KM hM
        dsimp only at hk hY hYl
        dsimp only [ups, zN, zS]
        rcases Nat.lt_or_ge k r.length with hk | hk
        · have hat := ats_at r k hk
          have hrl := ats_len r
          have hrp := ats_pures r
          have hnx := flat_take mailA hk
          obtain ⟨a, ha⟩ : ∃ a, r[k] = a := ⟨_, rfl⟩
          rw [ha] at hat hnx
          rw [show a.c = [.str a.t, .int .i64 a.k, .str a.v] from rfl] at hat
          have hYp := gns_pures Y
          have hYg := gns_len Y
          have htk : List.take (Y.length * 3) (Y.flatMap Gn.c) = Y.flatMap Gn.c := List.take_of_length_le (by omega)
          have hnz : [.str c.raw, .str c.tbs, .int .i64 c.serial, nmV c.issuer, .sl n (S.map atsV), .int .i64 c.nb, .int .i64 c.na, .int .i64 c.key.h, .str c.key.id, .str c.key.root, .bool c.info.basic, .bool c.info.ca, .int .i64 c.info.plen, .int .i64 c.info.usage, strV c.info.purposes, strV c.info.policies, mpsV c.info.maps, .int .i64 c.info.rexp, .int .i64 c.info.imap, .int .i64 c.info.iany, .sl m mc, .bool c.info.hasC, gnsV c.info.cons.p, gnsV c.info.cons.x, .str c.info.sk, .str c.info.ak, ptsV c.info.points, ptsV c.info.fresh, exsV c.info.unk, .str c.sig].map nz = [.str c.raw, .str c.tbs, .int .i64 c.serial, nmV c.issuer, .sl n (S.map atsV), .int .i64 c.nb, .int .i64 c.na, .int .i64 c.key.h, .str c.key.id, .str c.key.root, .bool c.info.basic, .bool c.info.ca, .int .i64 c.info.plen, .int .i64 c.info.usage, strV c.info.purposes, strV c.info.policies, mpsV c.info.maps, .int .i64 c.info.rexp, .int .i64 c.info.imap, .int .i64 c.info.iany, .sl m mc, .bool c.info.hasC, gnsV c.info.cons.p, gnsV c.info.cons.x, .str c.info.sk, .str c.info.ak, ptsV c.info.points, ptsV c.info.fresh, exsV c.info.unk, .str c.sig] := by simp [nz, nmV, gnsV, strV, mpsV, ptsV, exsV]
          by_cases hm : a.t = [49, 46, 50, 46, 56, 52, 48, 46, 49, 49, 51, 53, 52, 57, 46, 49, 46, 57, 46, 49]
          · rw [show mailA a = [⟨1, a.v, []⟩] by unfold mailA; rw [if_pos hm]] at hnx
            refine awp_seq fun K hK => ?_
            repeat' (first | (refine Y0 rfl fun K9 h9 => ?_; simp (disch := first | exact dd | fail) [hat, hrl, hm, hYg]; (try simp (disch := first | exact de | fail) only [X7]); ((repeat (refine Yz ?_)); (first | refine h9 _ _ (Ys ?_)); clear h9 K9)) | refine Y6 ?_ | refine Y9 ?_ | refine Ya ?_ | (refine Yb rfl ?_ ?_ <;> intro hcnd <;> (try simp at hcnd) <;> try exact dc) | refine Yc ?_ | (refine Yd ?_; simp only [X0, Nat.reduceBEq]) | (refine Ye ?_; refine Yf ?_) | refine Yg ?_ | (simp only [X0, Nat.reduceBEq]))
            refine hK _ _ ?_; clear hK K
            refine awp_seq fun K hK => ?_
            repeat' (first | (refine Y0 rfl fun K9 h9 => ?_; simp (disch := first | exact dd | fail) [hat, hrl, hm, hYg]; (try simp (disch := first | exact de | fail) only [X7]); ((repeat (refine Yz ?_)); (first | refine h9 _ _ (Ys ?_)); clear h9 K9)) | refine Y6 ?_ | refine Y9 ?_ | refine Ya ?_ | (refine Yb rfl ?_ ?_ <;> intro hcnd <;> (try simp at hcnd) <;> try exact dc) | refine Yc ?_ | (refine Yd ?_; simp only [X0, Nat.reduceBEq]) | (refine Ye ?_; refine Yf ?_) | refine Yg ?_ | (simp only [X0, Nat.reduceBEq]))
            refine hK _ _ ?_; clear hK K
            refine awp_seq fun Kz hKz => ?_
            repeat' (first | (refine Y0 rfl fun K9 h9 => ?_; simp (disch := first | exact dd | fail) [hat, hrl, hm, hYg]; (try simp (disch := first | exact de | fail) only [X7]); ((repeat (refine Yz ?_)); (first | refine h9 _ _ (Ys ?_)); clear h9 K9)) | refine Y6 ?_ | (refine Y8 fun K hK => ?_) | refine Y9 ?_ | (apply hK; clear hK K) | refine Ya ?_ | (refine Yb rfl ?_ ?_ <;> intro hcnd <;> (try simp at hcnd) <;> try exact dc) | refine Yc ?_ | (refine Yd ?_; simp only [X0, Nat.reduceBEq]) | (refine Ye ?_; refine Yf ?_) | refine Yg ?_ | (simp only [X0, Nat.reduceBEq]) | clear hK K)
            refine hKz _ _ ?_
            clear hKz
            refine awp_nz ?_
            rw [show List.map nzRow _ = _ from by simp only [List.map_cons, List.map_nil, nzRow, nz, List.map_append, List.map_take, gns_nz, hnz]; rfl]
            repeat' (first | (refine Y0 rfl fun K9 h9 => ?_; simp (disch := first | exact dd | fail); (try simp (disch := first | exact de | fail) only [X7]); ((repeat (refine Yz ?_)); (first | refine h9 _ _ (Ys ?_)); clear h9 K9)) | refine Y6 ?_ | (refine Y8 fun K hK => ?_) | refine Y9 ?_ | (apply hK; clear hK K) | refine Ya ?_ | (refine Yb rfl ?_ ?_ <;> intro hcnd <;> (try simp at hcnd) <;> try exact dc) | refine Yc ?_ | (refine Yd ?_; simp only [X0, Nat.reduceBEq]) | (refine Ye ?_; refine Yf ?_) | refine Yg ?_ | (simp only [X0, Nat.reduceBEq]) | clear hK K)
            refine hM (k + 1, Y ++ [⟨1, a.v, []⟩]) _ _ ⟨by dsimp only; omega, by dsimp only; rw [hnx, hY, List.append_assoc], by simp; omega⟩ (by dsimp only; omega) ?_
            exact Yr [some 0, some 4] (by simp [rowsOver, rowRen_live, rens_pures hcp, rens_pures hYp, Gn.c, htk])
          · rw [show mailA a = [] by unfold mailA; rw [if_neg hm]] at hnx
            repeat' (first | (refine Y0 rfl fun K9 h9 => ?_; simp (disch := first | exact dd | fail) [hat, hrl, hm, hYg]; (try simp (disch := first | exact de | fail) only [X7]); ((repeat (refine Yz ?_)); (first | refine h9 _ _ (Ys ?_)); clear h9 K9)) | refine Y6 ?_ | (refine Y8 fun K hK => ?_) | refine Y9 ?_ | (apply hK; clear hK K) | refine Ya ?_ | (refine Yb rfl ?_ ?_ <;> intro hcnd <;> (try simp at hcnd) <;> try exact dc) | refine Yc ?_ | (refine Yd ?_; simp only [X0, Nat.reduceBEq]) | (refine Ye ?_; refine Yf ?_) | refine Yg ?_ | (simp only [X0, Nat.reduceBEq]) | clear hK K)
            refine hM (k + 1, Y) _ _ ⟨by dsimp only; omega, by dsimp only; rw [hnx, hY, List.append_nil], by dsimp only; omega⟩ (by dsimp only; omega) ?_
            exact Yr [some 0, some 1] (by simp [rowsOver, rowRen_live, rens_pures hcp, rens_pures hYp])
        · clear hM
          obtain rfl : k = r.length := by omega
          rw [List.take_length] at hY
          have hYp := gns_pures Y
          repeat' (first | (refine Y0 rfl fun K9 h9 => ?_; simp (disch := first | exact dd | fail); (try simp (disch := first | exact de | fail) only [X7]); ((repeat (refine Yz ?_)); (first | refine h9 _ _ (Ys ?_)); clear h9 K9)) | refine Y6 ?_ | (refine Y8 fun K hK => ?_) | refine Y9 ?_ | (apply hK; clear hK K) | refine Ya ?_ | (refine Yb rfl ?_ ?_ <;> intro hcnd <;> (try simp at hcnd) <;> try exact dc) | refine Yc ?_ | (refine Yd ?_; simp only [X0, Nat.reduceBEq]) | (refine Ye ?_; refine Yf ?_) | refine Yg ?_ | (simp only [X0, Nat.reduceBEq]) | clear hK K)
          refine hL (i + 1, Y) _ _ ⟨by dsimp only; omega, by dsimp only; rw [hnext, hY, hX, List.append_assoc]; rfl, by dsimp only; omega⟩ (by dsimp only; omega) ?_
          exact Yr [some 0, some 1] (by simp [rowsOver, rowRen_live, rens_pures hcp, rens_pures hYp])
      · clear hL
        obtain rfl : i = n := by omega
        rw [List.take_of_length_le (by omega)] at hX
        have hYp := gns_pures X
        have hYg := gns_len X
        repeat' (first | (refine Y0 rfl fun K9 h9 => ?_; simp (disch := first | exact dd | fail); (try simp (disch := first | exact de | fail) only [X7]); ((repeat (refine Yz ?_)); (first | refine h9 _ _ (Ys ?_)); clear h9 K9)) | refine Y6 ?_ | (refine Y8 fun K hK => ?_) | refine Y9 ?_ | (apply hK; clear hK K) | refine Ya ?_ | (refine Yb rfl ?_ ?_ <;> intro hcnd <;> (try simp at hcnd) <;> try exact dc) | refine Yc ?_ | (refine Yd ?_; simp only [X0, Nat.reduceBEq]) | (refine Ye ?_; refine Yf ?_) | refine Yg ?_ | (simp only [X0, Nat.reduceBEq]) | clear hK K)
        simp
        rw [← hX]
        show View _ _ (.sl X.length (X.flatMap Gn.c))
        refine view_row rfl ?_ hYp
        omega
    by_cases h0 : n = 0
    · rw [if_pos h0, List.append_nil] at hbc
      rw [if_pos h0, Nat.add_zero] at hbl
      rw [hbc, hbl] at main1
      clear hbc hbl
      subst h0
      repeat' (first | (refine Y0 rfl fun K9 h9 => ?_; simp (disch := first | exact dd | fail); (try simp (disch := first | exact de | fail) only [X7]); ((repeat (refine Yz ?_)); (first | refine h9 _ _ (Ys ?_)); clear h9 K9)) | refine Y6 ?_ | (refine Y8 fun K hK => ?_) | refine Y9 ?_ | (apply hK; clear hK K) | refine Ya ?_ | (refine Yb rfl ?_ ?_ <;> intro hcnd <;> (try simp at hcnd) <;> try exact dc) | refine Yc ?_ | (refine Yd ?_; simp only [X0, Nat.reduceBEq]) | (refine Ye ?_; refine Yf ?_) | refine Yg ?_ | (simp only [X0, Nat.reduceBEq]) | clear hK K)
      refine hJ1.le _ _ _ _ ?_ main1
      exact Yr [some 0, some 1] (by simp [rowsOver, rowRen_live, rens_pures hcp, rens_pures hgp])
    · rw [if_neg h0] at hbc
      rw [if_neg h0] at hbl
      rw [hbc, hbl] at main1
      clear hbc hbl
      have htk : List.take (m * 3) mc = mc := List.take_of_length_le (by omega)
      have hpp : Pures (mc ++ [V.int .i64 4, .str [], .sl n (S.map atsV)]) := by simp; exact hgp
      repeat' (first | (refine Y0 rfl fun K9 h9 => ?_; simp (disch := first | exact dd | fail) [h0, hgl]; (try simp (disch := first | exact de | fail) only [X7]); ((repeat (refine Yz ?_)); (first | refine h9 _ _ (Ys ?_)); clear h9 K9)) | refine Y6 ?_ | (refine Y8 fun K hK => ?_) | refine Y9 ?_ | (apply hK; clear hK K) | refine Ya ?_ | (refine Yb rfl ?_ ?_ <;> intro hcnd <;> (try simp at hcnd) <;> try exact dc) | refine Yc ?_ | (refine Yd ?_; simp only [X0, Nat.reduceBEq]) | (refine Ye ?_; refine Yf ?_) | refine Yg ?_ | (simp only [X0, Nat.reduceBEq]) | clear hK K)
      refine hJ1.le _ _ _ _ ?_ main1
      exact Yr [some 0, some 3] (by simp [rowsOver, rowRen_live, rens_pures hcp, rens_pures hgp, rens_pures hpp, htk])
  · exact .sl
end Go.Proofs.YtcfmanhblonjeaaGreatDoor

