/-
  STEP: StepLeavesAnything.
  Conditions: none.
-/
import Derived.Test.YtjlifjmjnhdcmaaQ36
import Derived.Test.YtjlifjmjnhdcmaaQ35
import Derived.Test.YtjlifjmjnhdcmaaQ33
import Derived.Test.YtjlifjmjnhdcmaaQ23
import Derived.Test.YtjlifjmjnhdcmaaGk
import Derived.Test.YtjlifjmjnhdcmaaQ22
set_option linter.all false
namespace Go.Stp
open Go.VS Go.Proofs.Ytjlifjmjnhdcmaa
def ce1 (k : Nat) (i : In) : Ce := ⟨[], [], 0, authN 0, authN k, 0, 0, ⟨0, [], []⟩, i, []⟩
theorem ce1_c (k : Nat) (i : In) : (ce1 k i).c = [.str [], .str [], .int .i64 0, nmV (authN 0), nmV (authN k), .int .i64 0, .int .i64 0, .int .i64 0, .str [], .str [], .bool i.basic, .bool i.ca, .int .i64 i.plen, .int .i64 i.usage, strV i.purposes, strV i.policies, mpsV i.maps, .int .i64 i.rexp, .int .i64 i.imap, .int .i64 i.iany, gnsV i.names, .bool i.hasC, gnsV i.cons.p, gnsV i.cons.x, .str i.sk, .str i.ak, ptsV i.points, ptsV i.fresh, exsV i.unk, .str []] := rfl
end Go.Stp
namespace Go.Proofs.Ytjlifjmjnhdcmaa
open Go.VS Go.Stp
set_option linter.all false
set_option maxRecDepth 100000
set_option maxHeartbeats 16000000
theorem leaveS_w2 {s : Pg} {c : Ce} (w : WLv s c) : WN (leaveS s c).issuer ∧ WSs (leaveS s c).names := by
  unfold leaveS
  split
  · refine ⟨w.sub, ?_⟩
    unfold leaveP
    dsimp only
    have hf := w.few
    split
    · refine ⟨by simp; omega, fun x hx => ?_⟩
      simp at hx
      rcases hx with hx | rfl
      · exact w.names.2 x hx
      · exact w.cons
    · exact w.names
  · exact ⟨⟨by simp [zeroPg], fun x h => by simp [zeroPg] at h⟩, ⟨by simp [zeroPg], fun x h => by simp [zeroPg] at h⟩⟩
attribute [local irreducible] arun arunD arunU AWp aend bits
theorem anything_call (s : Pg) (i : In) (b : Bool) (hI : I64 s.len ∧ I64 s.expl ∧ I64 s.map ∧ I64 s.any) : PCall Try.prog 7 [.agg s.c, .agg i.c, .bool b] (.bool true) := by
  have aw := awake_call
  have a0 := auth_call 0 (by omega)
  have a1 := auth_call 1 (by omega)
  have a8 := auth_call 8 (by omega)
  have sn : EG Try.prog 27 [.agg [nmV s.issuer]] [] (fun r _ => ∃ b : Bool, r = .bool b ∧ (b = true → WN s.issuer)) := shortName_eg s.issuer
  have si : EG Try.prog 28 [.agg [.bool i.basic, .bool i.ca, .int .i64 i.plen, .int .i64 i.usage, strV i.purposes, strV i.policies, mpsV i.maps, .int .i64 i.rexp, .int .i64 i.imap, .int .i64 i.iany, gnsV i.names, .bool i.hasC, gnsV i.cons.p, gnsV i.cons.x, .str i.sk, .str i.ak, ptsV i.points, ptsV i.fresh, exsV i.unk]] [] (fun r _ => ∃ b : Bool, r = .bool b ∧ (b = true → i.maps.length ≤ 65536 ∧ WS i.cons ∧ i.unk.length ≤ 65536)) := shortInfo_eg i
  have hwl : ∀ k, WSs s.names → (i.maps.length ≤ 65536 ∧ WS i.cons ∧ i.unk.length ≤ 65536) → s.names.length ≤ 5 → WLv s (ce1 k i) := fun k h1 h2 h3 => ⟨authN_wn _, authN_wn _, h2.1, h1, by omega, h2.2.1, hI.1, hI.2.1, hI.2.2.1, hI.2.2.2⟩
  have hll : (s.names.flatMap Sb.c).length = s.names.length * 2 := flat_len Sb.c_len s.names
  have hcells := subs_at s.names
  rw [Pg.c.eq_1 s, In.c.eq_1 i, show sbsV s.names = .sl s.names.length (s.names.flatMap Sb.c) from rfl]
  obtain ⟨cells, hcc⟩ : ∃ cells, s.names.flatMap Sb.c = cells := ⟨_, rfl⟩
  rw [hcc] at hll hcells ⊢
  refine pcall_body Try.func7 rfl Try.call7 ?_ ?_
  rotate_left 1
  refine awp_slots (s' := ((.agg [nmV s.issuer, .int .i64 s.key.h, .str s.key.id, .str s.key.root, .bool s.lists, .int .i64 s.len, .int .i64 s.expl, .int .i64 s.map, .int .i64 s.any, .sl s.names.length cells] : V) :: (.agg [.bool i.basic, .bool i.ca, .int .i64 i.plen, .int .i64 i.usage, strV i.purposes, strV i.policies, mpsV i.maps, .int .i64 i.rexp, .int .i64 i.imap, .int .i64 i.iany, gnsV i.names, .bool i.hasC, gnsV i.cons.p, gnsV i.cons.x, .str i.sk, .str i.ak, ptsV i.points, ptsV i.fresh, exsV i.unk] : V) :: (.bool b : V) :: V.junk :: V.junk :: V.junk :: V.junk :: V.junk :: V.junk :: V.junk :: V.junk :: V.junk :: V.junk :: V.junk :: V.junk :: V.junk :: V.junk :: V.junk :: V.junk :: V.junk :: V.junk :: V.junk :: V.junk :: V.junk :: V.junk :: V.junk :: V.junk :: V.junk :: V.junk :: V.junk :: V.junk :: V.junk :: V.junk :: V.junk :: V.junk :: V.junk :: V.junk :: V.junk :: V.junk :: V.junk :: V.junk :: V.junk :: V.junk :: V.junk :: V.junk :: V.junk :: V.junk :: V.junk :: V.junk :: V.junk :: V.junk :: V.junk :: V.junk :: V.junk :: V.junk :: V.junk :: V.junk :: V.junk :: V.junk :: V.junk :: V.junk :: V.junk :: V.junk :: V.junk :: V.junk :: V.junk :: V.junk :: V.junk :: V.junk :: V.junk :: V.junk :: V.junk :: V.junk :: V.junk :: V.junk :: V.junk :: V.junk :: V.junk :: V.junk :: V.junk :: V.junk :: V.junk :: V.junk :: V.junk :: V.junk :: V.junk :: V.junk :: V.junk :: V.junk :: V.junk :: V.junk :: V.junk :: V.junk :: V.junk :: V.junk :: V.junk :: V.junk :: V.junk :: V.junk :: V.junk :: V.junk :: V.junk :: V.junk :: V.junk :: V.junk :: [])) rfl ?_
  by_cases h5 : (5 : Int) < s.names.length
  · repeat' (first | ((first | refine Yl rfl fun K9 h9 => ?_ | refine Y1 rfl rfl fun K9 h9 => ?_ | refine Y2 rfl rfl fun K9 h9 => ?_ | (refine Ym ?_ ?_; (focus (simp [h5]; done)); intro K9 h9) | ((first | refine Y4 rfl ?_ ?_ | refine Y5 rfl ?_ ?_); (focus (simp [h5]; done)); intro K9 h9)); simp (disch := (first | (simp; done) | omega | (simp; omega))) [h5]; (try simp (disch := (first | omega | (simp; omega))) only [X7, X8, X9, Xa, Xb, Xc]); ((first | (refine acall_eg [] sn (by simp) (by simp [rowsOver]) ?_ rfl ?_; (focus (simp; done)); intro r rows' hR hr hl hps; obtain ⟨b1, rfl, hb1⟩ := hR; clear hr hps; obtain rfl := List.eq_nil_of_length_eq_zero hl; cases b1) | (refine acall_eg [] si (by simp) (by simp [rowsOver]) ?_ rfl ?_; (focus (simp; done)); intro r rows' hR hr hl hps; obtain ⟨b2, rfl, hb2⟩ := hR; clear hr hps; obtain rfl := List.eq_nil_of_length_eq_zero hl; cases b2) | refine acall_pure (aw) (by simp) ?_ | skip) <;> ((repeat (refine Yz ?_)); (first | refine h9 _ _ (Yp ?_) | refine h9 _ _ (Yt ?_)); clear h9 K9))) | refine Yo ?_ | refine Y7 ?_ | (refine Y8 fun K hK => ?_) | refine Yq ?_ | (apply hK; clear hK K) | ((first | refine Yk (m := 0) (by decide +kernel) [] (by kernel_rfl) (by decide +kernel) ?_ | refine Yk (m := 1) (by decide +kernel) [] (by kernel_rfl) (by decide +kernel) ?_); dsimp only [List.replicate, List.append_nil, List.cons_append, List.nil_append, List.length_cons, List.length_nil]) | refine Ya ?_ | (refine Yb rfl (fun hcnd => ?_) (fun hcnd => ?_) <;> (try simp at hcnd) <;> (try contradiction) <;> (try (exfalso; omega))) | refine Yc ?_ | (refine Yd ?_; simp only [X0, X1, X2, X3, X4, X5, X6, Nat.reduceBEq]) | (refine Ye ?_; refine Yf ?_) | (refine Yn ?_ ?_; (focus (simp [h5]; done)); refine Yp ?_) | ((first | refine Yi rfl ?_ ?_ | refine Yj rfl ?_ ?_); (focus (simp [h5]; done)); refine Yt ?_) | refine Yg ?_ | (simp only [X0, X1, X2, X3, X4, X5, X6, Nat.reduceBEq]) | (clear hK K; first | (apply hK; clear hK K) | (clear hK K; first | (apply hK; clear hK K) | (clear hK K; first | (apply hK; clear hK K) | (clear hK K; apply hK; clear hK K)))))
    all_goals exact .pure .bool
  · repeat' (first | ((first | refine Yl rfl fun K9 h9 => ?_ | refine Y1 rfl rfl fun K9 h9 => ?_ | refine Y2 rfl rfl fun K9 h9 => ?_ | (refine Ym ?_ ?_; (focus (simp [h5]; done)); intro K9 h9) | ((first | refine Y4 rfl ?_ ?_ | refine Y5 rfl ?_ ?_); (focus (simp [h5]; done)); intro K9 h9)); simp (disch := (first | (simp; done) | omega | (simp; omega))) [h5]; (try simp (disch := (first | omega | (simp; omega))) only [X7, X8, X9, Xa, Xb, Xc]); ((first | (refine acall_eg [] sn (by simp) (by simp [rowsOver]) ?_ rfl ?_; (focus (simp; done)); intro r rows' hR hr hl hps; obtain ⟨b1, rfl, hb1⟩ := hR; clear hr hps; obtain rfl := List.eq_nil_of_length_eq_zero hl; cases b1) | (refine acall_eg [] si (by simp) (by simp [rowsOver]) ?_ rfl ?_; (focus (simp; done)); intro r rows' hR hr hl hps; obtain ⟨b2, rfl, hb2⟩ := hR; clear hr hps; obtain rfl := List.eq_nil_of_length_eq_zero hl; cases b2) | refine acall_pure (aw) (by simp) ?_ | skip) <;> ((repeat (refine Yz ?_)); (first | refine h9 _ _ (Yp ?_) | refine h9 _ _ (Yt ?_)); clear h9 K9))) | refine Yo ?_ | refine Y7 ?_ | (refine Y8 fun K hK => ?_) | refine Yq ?_ | (apply hK; clear hK K) | ((first | refine Yk (m := 0) (by decide +kernel) [] (by kernel_rfl) (by decide +kernel) ?_ | refine Yk (m := 1) (by decide +kernel) [] (by kernel_rfl) (by decide +kernel) ?_); dsimp only [List.replicate, List.append_nil, List.cons_append, List.nil_append, List.length_cons, List.length_nil]) | refine Ya ?_ | (refine Yb rfl (fun hcnd => ?_) (fun hcnd => ?_) <;> (try simp at hcnd) <;> (try contradiction) <;> (try (exfalso; omega))) | refine Yc ?_ | (refine Yd ?_; simp only [X0, X1, X2, X3, X4, X5, X6, Nat.reduceBEq]) | (refine Ye ?_; refine Yf ?_) | (refine Yn ?_ ?_; (focus (simp [h5]; done)); refine Yp ?_) | ((first | refine Yi rfl ?_ ?_ | refine Yj rfl ?_ ?_); (focus (simp [h5]; done)); refine Yt ?_) | refine Yg ?_ | (simp only [X0, X1, X2, X3, X4, X5, X6, Nat.reduceBEq]) | (clear hK K; first | (apply hK; clear hK K) | (clear hK K; first | (apply hK; clear hK K) | (clear hK K; first | (apply hK; clear hK K) | (clear hK K; apply hK; clear hK K)))))
    iterate 2
      exact .pure .bool
    have hii := hb2 rfl
    have h5' : s.names.length ≤ 5 := by omega
    clear sn si hb1 hb2
    refine awp_loopU (α := Nat) (fun j => (some V.junk :: some V.junk :: none :: none :: none :: none :: some V.junk :: some (V.int .i64 j) :: some V.junk :: some V.junk :: some V.junk :: some V.junk :: some V.junk :: some V.junk :: some V.junk :: some V.junk :: some V.junk :: some V.junk :: some V.junk :: some V.junk :: some V.junk :: some V.junk :: some V.junk :: some V.junk :: some V.junk :: some V.junk :: some V.junk :: some V.junk :: some V.junk :: some V.junk :: some V.junk :: some V.junk :: some V.junk :: some V.junk :: some V.junk :: some V.junk :: some V.junk :: some V.junk :: some V.junk :: some V.junk :: some V.junk :: some V.junk :: some V.junk :: some V.junk :: some V.junk :: some V.junk :: some V.junk :: some V.junk :: some V.junk :: some V.junk :: some V.junk :: some V.junk :: some V.junk :: some V.junk :: some V.junk :: some V.junk :: some V.junk :: some V.junk :: some V.junk :: some V.junk :: some V.junk :: some V.junk :: some V.junk :: some V.junk :: some V.junk :: some V.junk :: some V.junk :: some V.junk :: some V.junk :: some V.junk :: some V.junk :: some V.junk :: some V.junk :: some V.junk :: some V.junk :: some V.junk :: some V.junk :: some V.junk :: some V.junk :: some V.junk :: some V.junk :: some V.junk :: some V.junk :: some V.junk :: some V.junk :: some V.junk :: some V.junk :: some V.junk :: some V.junk :: some V.junk :: some V.junk :: some V.junk :: some V.junk :: some V.junk :: some V.junk :: some V.junk :: some V.junk :: some V.junk :: some V.junk :: some V.junk :: some V.junk :: some V.junk :: some V.junk :: some V.junk :: some V.junk :: [])) (fun j => [.live [nmV s.issuer, .int .i64 s.key.h, .str s.key.id, .str s.key.root, .bool s.lists, .int .i64 s.len, .int .i64 s.expl, .int .i64 s.map, .int .i64 s.any, .sl s.names.length cells], .live [.bool i.basic, .bool i.ca, .int .i64 i.plen, .int .i64 i.usage, strV i.purposes, strV i.policies, mpsV i.maps, .int .i64 i.rexp, .int .i64 i.imap, .int .i64 i.iany, gnsV i.names, .bool i.hasC, gnsV i.cons.p, gnsV i.cons.x, .str i.sk, .str i.ak, ptsV i.points, ptsV i.fresh, exsV i.unk]]) (fun j => j ≤ s.names.length ∧ ∀ m (h : m < s.names.length), m < j → WS s.names[m]) (fun j => s.names.length - j) 0 ⟨by omega, fun m _ h => by omega⟩ ?_ ?_
    · dsimp only [ups_some, ups_none, ups_nil, ups_nil']
      exact Yr [some 0, some 1] (by simp [rowsOver, rowRen_live, rens_pures])
    rintro j ⟨hj, hall⟩ KL hL
    dsimp only [ups_some, ups_none, ups_nil, ups_nil']
    rcases Nat.lt_or_ge j s.names.length with hj | hj
    · have hstep : WS s.names[j] → j + 1 ≤ s.names.length ∧ ∀ m (h : m < s.names.length), m < j + 1 → WS s.names[m] := fun hx => ⟨by omega, fun m hm h => by
        rcases Nat.lt_or_ge m j with h3 | h3
        · exact hall m hm h3
        · obtain rfl : m = j := by omega
          exact hx⟩
      have hg := hcells j hj
      obtain ⟨x, hxx⟩ : ∃ x, s.names[j] = x := ⟨_, rfl⟩
      rw [hxx] at hstep hg
      rw [show x.c = [gnsV x.p, gnsV x.x] from rfl] at hg
      have hg0 := take_get hg 0 (by simp)
      have hg1 := take_get hg 1 (by simp)
      dsimp only [Nat.add_zero, List.getElem_cons_succ, List.getElem_cons_zero] at hg0 hg1
      have gp : EG Try.prog 29 [gnsV x.p] [] (fun r _ => ∃ b : Bool, r = .bool b ∧ (b = true → WG x.p)) := shortNames_eg x.p
      have gx : EG Try.prog 29 [gnsV x.x] [] (fun r _ => ∃ b : Bool, r = .bool b ∧ (b = true → WG x.x)) := shortNames_eg x.x
      repeat' (first | ((first | refine Yl rfl fun K9 h9 => ?_ | refine Y1 rfl rfl fun K9 h9 => ?_ | refine Y2 rfl rfl fun K9 h9 => ?_ | (refine Ym ?_ ?_; (focus (simp [hll, hg, hg0, hg1]; done)); intro K9 h9) | ((first | refine Y4 rfl ?_ ?_ | refine Y5 rfl ?_ ?_); (focus (simp [hll, hg, hg0, hg1]; done)); intro K9 h9)); simp (disch := (first | (simp; done) | omega | (simp; omega))) [hll, hg, hg0, hg1]; (try simp (disch := (first | omega | (simp; omega))) only [X7, X8, X9, Xa, Xb, Xc]); ((first | (refine acall_eg [] gp (by simp) (by simp [rowsOver]) ?_ rfl ?_; (focus (simp; done)); intro r rows' hR hr hl hps; obtain ⟨p1, rfl, hp1⟩ := hR; clear hr hps; obtain rfl := List.eq_nil_of_length_eq_zero hl; cases p1) | (refine acall_eg [] gx (by simp) (by simp [rowsOver]) ?_ rfl ?_; (focus (simp; done)); intro r rows' hR hr hl hps; obtain ⟨p2, rfl, hp2⟩ := hR; clear hr hps; obtain rfl := List.eq_nil_of_length_eq_zero hl; cases p2) | refine acall_pure (aw) (by simp) ?_ | skip) <;> ((repeat (refine Yz ?_)); (first | refine h9 _ _ (Yp ?_) | refine h9 _ _ (Yt ?_)); clear h9 K9))) | refine Yo ?_ | refine Y7 ?_ | (refine Y8 fun K hK => ?_) | refine Yq ?_ | (apply hK; clear hK K) | ((first | refine Yk (m := 0) (by decide +kernel) [] (by kernel_rfl) (by decide +kernel) ?_ | refine Yk (m := 1) (by decide +kernel) [] (by kernel_rfl) (by decide +kernel) ?_); dsimp only [List.replicate, List.append_nil, List.cons_append, List.nil_append, List.length_cons, List.length_nil]) | refine Ya ?_ | (refine Yb rfl (fun hcnd => ?_) (fun hcnd => ?_) <;> (try simp at hcnd) <;> (try contradiction) <;> (try (exfalso; omega))) | refine Yc ?_ | (refine Yd ?_; simp only [X0, X1, X2, X3, X4, X5, X6, Nat.reduceBEq]) | (refine Ye ?_; refine Yf ?_) | (refine Yn ?_ ?_; (focus (simp [hll, hg, hg0, hg1]; done)); refine Yp ?_) | ((first | refine Yi rfl ?_ ?_ | refine Yj rfl ?_ ?_); (focus (simp [hll, hg, hg0, hg1]; done)); refine Yt ?_) | refine Yg ?_ | (simp only [X0, X1, X2, X3, X4, X5, X6, Nat.reduceBEq]) | (clear hK K; first | (apply hK; clear hK K) | (clear hK K; first | (apply hK; clear hK K) | (clear hK K; first | (apply hK; clear hK K) | (clear hK K; apply hK; clear hK K)))))
      iterate 2
        exact .pure .bool
      refine hL (j + 1) _ _ (hstep ⟨hp1 rfl, hp2 rfl⟩) (by omega) ?_
      exact Yr [some 0, some 1] (by simp [rowsOver, rowRen_live, rens_pures])
    · clear hL
      have hw3 : WSs s.names := ⟨by omega, fun x hx => by
        obtain ⟨m, hm, rfl⟩ := List.getElem_of_mem hx
        exact hall m hm (by omega)⟩
      cases b
      · have wl := hwl 1 hw3 hii h5'
        have lv := leave_call s (ce1 1 i) wl
        have rl := rleave_call s (ce1 1 i) wl
        have hsm := same_call (leaveS s (ce1 1 i)) (leaveS_w2 wl).1 (leaveS_w2 wl).2
        have cr := critical_call (ce1 1 i) hii.2.2
        have rc := rcritical_call (ce1 1 i) hii.2.2
        have fi := final_any s (ce1 1 i) hI.2.1.2
        have rf := rfinal_call s (ce1 1 i) hI.2.1
        generalize leaveS s (ce1 1 i) = P at *
        generalize leaveK s (ce1 1 i) = kk at *
        generalize critI (ce1 1 i).info.unk = ck at *
        generalize finalS s (ce1 1 i) = fk at *
        rw [ce1_c] at lv rl cr rc fi rf
        rw [Pg.c.eq_1 s, show sbsV s.names = .sl s.names.length (s.names.flatMap Sb.c) from rfl, hcc, Pg.c.eq_1 P] at lv rl
        rw [Pg.c.eq_1 s, show sbsV s.names = .sl s.names.length (s.names.flatMap Sb.c) from rfl, hcc] at fi rf
        rw [Pg.c.eq_1 P] at hsm
        generalize authN 0 = A0 at *
        generalize authN 1 = A1 at *
        generalize authN 8 = A8 at *
        repeat' (first | ((first | refine Yl rfl fun K9 h9 => ?_ | refine Y1 rfl rfl fun K9 h9 => ?_ | refine Y2 rfl rfl fun K9 h9 => ?_ | (refine Ym ?_ ?_; (focus (simp; done)); intro K9 h9) | ((first | refine Y4 rfl ?_ ?_ | refine Y5 rfl ?_ ?_); (focus (simp; done)); intro K9 h9)); simp (disch := (first | (simp; done) | omega | (simp; omega))); (try simp (disch := (first | omega | (simp; omega))) only [X7, X8, X9, Xa, Xb, Xc]); ((first | refine acall_pure (a0) (by simp) ?_ | refine acall_pure (a1) (by simp) ?_ | refine acall_pure (a8) (by simp) ?_ | refine acall_pure (lv) (by simp) ?_ | refine acall_pure (rl) (by simp) ?_ | refine acall_pure (hsm) (by simp) ?_ | refine acall_pure (cr) (by simp) ?_ | refine acall_pure (rc) (by simp) ?_ | refine acall_pure (fi) (by simp) ?_ | refine acall_pure (rf) (by simp) ?_ | refine acall_pure (aw) (by simp) ?_ | skip) <;> ((repeat (refine Yz ?_)); (first | refine h9 _ _ (Yp ?_) | refine h9 _ _ (Yt ?_)); clear h9 K9))) | refine Yo ?_ | refine Y7 ?_ | (refine Y8 fun K hK => ?_) | refine Yq ?_ | (apply hK; clear hK K) | ((first | refine Yk (m := 0) (by decide +kernel) [] (by kernel_rfl) (by decide +kernel) ?_ | refine Yk (m := 1) (by decide +kernel) [] (by kernel_rfl) (by decide +kernel) ?_); dsimp only [List.replicate, List.append_nil, List.cons_append, List.nil_append, List.length_cons, List.length_nil]) | refine Ya ?_ | (refine Yb rfl (fun hcnd => ?_) (fun hcnd => ?_) <;> (try simp at hcnd) <;> (try contradiction) <;> (try (exfalso; omega))) | refine Yc ?_ | (refine Yd ?_; simp only [X0, X1, X2, X3, X4, X5, X6, Nat.reduceBEq]) | (refine Ye ?_; refine Yf ?_) | (refine Yn ?_ ?_; (focus (simp; done)); refine Yp ?_) | ((first | refine Yi rfl ?_ ?_ | refine Yj rfl ?_ ?_); (focus (simp; done)); refine Yt ?_) | refine Yg ?_ | (simp only [X0, X1, X2, X3, X4, X5, X6, Nat.reduceBEq]) | (clear hK K; first | (apply hK; clear hK K) | (clear hK K; first | (apply hK; clear hK K) | (clear hK K; first | (apply hK; clear hK K) | (clear hK K; apply hK; clear hK K)))))
        simp
        exact .pure .bool
      · have wl := hwl 8 hw3 hii h5'
        have lv := leave_call s (ce1 8 i) wl
        have rl := rleave_call s (ce1 8 i) wl
        have hsm := same_call (leaveS s (ce1 8 i)) (leaveS_w2 wl).1 (leaveS_w2 wl).2
        have cr := critical_call (ce1 8 i) hii.2.2
        have rc := rcritical_call (ce1 8 i) hii.2.2
        have fi := final_any s (ce1 8 i) hI.2.1.2
        have rf := rfinal_call s (ce1 8 i) hI.2.1
        generalize leaveS s (ce1 8 i) = P at *
        generalize leaveK s (ce1 8 i) = kk at *
        generalize critI (ce1 8 i).info.unk = ck at *
        generalize finalS s (ce1 8 i) = fk at *
        rw [ce1_c] at lv rl cr rc fi rf
        rw [Pg.c.eq_1 s, show sbsV s.names = .sl s.names.length (s.names.flatMap Sb.c) from rfl, hcc, Pg.c.eq_1 P] at lv rl
        rw [Pg.c.eq_1 s, show sbsV s.names = .sl s.names.length (s.names.flatMap Sb.c) from rfl, hcc] at fi rf
        rw [Pg.c.eq_1 P] at hsm
        generalize authN 0 = A0 at *
        generalize authN 1 = A1 at *
        generalize authN 8 = A8 at *
        repeat' (first | ((first | refine Yl rfl fun K9 h9 => ?_ | refine Y1 rfl rfl fun K9 h9 => ?_ | refine Y2 rfl rfl fun K9 h9 => ?_ | (refine Ym ?_ ?_; (focus (simp; done)); intro K9 h9) | ((first | refine Y4 rfl ?_ ?_ | refine Y5 rfl ?_ ?_); (focus (simp; done)); intro K9 h9)); simp (disch := (first | (simp; done) | omega | (simp; omega))); (try simp (disch := (first | omega | (simp; omega))) only [X7, X8, X9, Xa, Xb, Xc]); ((first | refine acall_pure (a0) (by simp) ?_ | refine acall_pure (a1) (by simp) ?_ | refine acall_pure (a8) (by simp) ?_ | refine acall_pure (lv) (by simp) ?_ | refine acall_pure (rl) (by simp) ?_ | refine acall_pure (hsm) (by simp) ?_ | refine acall_pure (cr) (by simp) ?_ | refine acall_pure (rc) (by simp) ?_ | refine acall_pure (fi) (by simp) ?_ | refine acall_pure (rf) (by simp) ?_ | refine acall_pure (aw) (by simp) ?_ | skip) <;> ((repeat (refine Yz ?_)); (first | refine h9 _ _ (Yp ?_) | refine h9 _ _ (Yt ?_)); clear h9 K9))) | refine Yo ?_ | refine Y7 ?_ | (refine Y8 fun K hK => ?_) | refine Yq ?_ | (apply hK; clear hK K) | ((first | refine Yk (m := 0) (by decide +kernel) [] (by kernel_rfl) (by decide +kernel) ?_ | refine Yk (m := 1) (by decide +kernel) [] (by kernel_rfl) (by decide +kernel) ?_); dsimp only [List.replicate, List.append_nil, List.cons_append, List.nil_append, List.length_cons, List.length_nil]) | refine Ya ?_ | (refine Yb rfl (fun hcnd => ?_) (fun hcnd => ?_) <;> (try simp at hcnd) <;> (try contradiction) <;> (try (exfalso; omega))) | refine Yc ?_ | (refine Yd ?_; simp only [X0, X1, X2, X3, X4, X5, X6, Nat.reduceBEq]) | (refine Ye ?_; refine Yf ?_) | (refine Yn ?_ ?_; (focus (simp; done)); refine Yp ?_) | ((first | refine Yi rfl ?_ ?_ | refine Yj rfl ?_ ?_); (focus (simp; done)); refine Yt ?_) | refine Yg ?_ | (simp only [X0, X1, X2, X3, X4, X5, X6, Nat.reduceBEq]) | (clear hK K; first | (apply hK; clear hK K) | (clear hK K; first | (apply hK; clear hK K) | (clear hK K; first | (apply hK; clear hK K) | (clear hK K; apply hK; clear hK K)))))
        simp
        exact .pure .bool
  exact .bool
theorem fitsV_agg {P : Program} {f : Nat} {t : TypeId} {x : V} (l : List TypeId) (hu : ufields P t = some l) (h : FitsV P f t x) : ∃ xs, x = .agg xs ∧ Fits P f t xs := by
  unfold FitsV at h
  unfold ufields at hu
  split at hu
  · rename_i fs hs
    rw [hs] at h
    obtain ⟨xs, h1, h2⟩ := h
    exact ⟨xs, h2, h1⟩
  · cases hu
theorem stepLeavesAnything_fits : ∀ xs, FitsAll Try.prog 16 Try.f7.params.toList xs → PCall Try.prog 7 xs (.bool true) := by
  intro xs h
  rw [show Try.f7.params.toList = [45, 56, 4] by kernel_rfl] at h
  obtain ⟨x1, xs, rfl, h1, h⟩ := fitsAll_cons h
  obtain ⟨x2, xs, rfl, h2, h⟩ := fitsAll_cons h
  obtain ⟨x3, xs, rfl, h3, h⟩ := fitsAll_cons h
  obtain rfl := fitsAll_nil h
  obtain ⟨y1, rfl, e1⟩ := fitsV_agg [27, 29, 4, 3, 3, 3, 3, 43] (by kernel_rfl) h1
  obtain ⟨y2, rfl, e2⟩ := fitsV_agg [4, 4, 3, 3, 34, 34, 50, 3, 3, 3, 35, 4, 52, 9, 9, 53, 53, 54] (by kernel_rfl) h2
  obtain ⟨s, hs, rfl⟩ := fits_pg (f := 5) e1
  obtain ⟨i, -, rfl⟩ := fits_in (f := 6) e2
  obtain ⟨b, rfl⟩ := fits_bool (f := 15) (by kernel_rfl) h3
  exact anything_call s i b hs
end Go.Proofs.Ytjlifjmjnhdcmaa
