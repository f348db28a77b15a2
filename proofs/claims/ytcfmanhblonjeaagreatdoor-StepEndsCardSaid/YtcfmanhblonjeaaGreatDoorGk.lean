/-
  STEP: Leave.
  STEP: Leave, where the checks are passed.
  STEP: the examples of the chapter.
  Conditions: none.
-/
import Derived.Test.YtcfmanhblonjeaaGreatDoorGe
import Derived.Test.YtcfmanhblonjeaaGreatDoorGf
import Derived.Test.YtcfmanhblonjeaaGreatDoorGg
import Derived.Test.YtcfmanhblonjeaaGreatDoorGh
import Derived.Test.YtcfmanhblonjeaaGreatDoorGj
import Derived.Test.YtcfmanhblonjeaaGreatDoorGl
import Derived.Test.YtcfmanhblonjeaaGreatDoorTab
import Derived.Test.YtcfmanhblonjeaaGreatDoorGd
import Derived.Test.YtcfmanhblonjeaaGreatDoorGi
namespace Go.Stp
open Go.VS
def decS (n : Int) : Int := if 0 < n then n - 1 else n
def fallS (self : Bool) (n : Int) : Int := if self then n else decS n
def zeroPg : Pg := ⟨[], ⟨0, [], []⟩, false, 0, 0, 0, 0, []⟩
def leaveP (s : Pg) (c : Ce) : Pg :=
  { issuer := c.subject, key := c.key, lists := decide (c.info.usage = 0) || (bits .and .i64 c.info.usage 64 != 0), len := leastS (if selfB c then s.len else s.len - 1) c.info.plen,
    expl := leastS (fallS (selfB c) s.expl) c.info.rexp, map := leastS (fallS (selfB c) s.map) c.info.imap, any := leastS (fallS (selfB c) s.any) c.info.iany, names := if c.info.hasC then s.names ++ [c.info.cons] else s.names }
def leaveK (s : Pg) (c : Ce) : Int := if c.info.maps.any specB then 8 else if c.info.ca = false then 9 else if selfB c = false ∧ s.len < 1 then 10 else if c.info.usage ≠ 0 ∧ bits .and .i64 c.info.usage 32 = 0 then 11 else 0
def leaveS (s : Pg) (c : Ce) : Pg := if leaveK s c = 0 then leaveP s c else zeroPg
def I64 (n : Int) : Prop := -9223372036854775808 ≤ n ∧ n ≤ 9223372036854775807
structure WLv (s : Pg) (c : Ce) : Prop where
  sub : WN c.subject
  iss : WN c.issuer
  maps : c.info.maps.length ≤ 65536
  names : WSs s.names
  few : s.names.length ≤ 60000
  cons : WS c.info.cons
  len : I64 s.len
  expl : I64 s.expl
  map : I64 s.map
  any : I64 s.any
end Go.Stp
namespace Go.Proofs.YtcfmanhblonjeaaGreatDoor
open Go.VS Go.Stp
set_option linter.all false
set_option maxRecDepth 100000
set_option maxHeartbeats 8000000
attribute [local irreducible] arun arunD arunU AWp aend bits
theorem leave_early (s : Pg) (c : Ce) (w : WLv s c) (h : leaveK s c ≠ 0) : PCall Tryz.prog 41 [.agg s.c, .agg c.c] (.tup [.agg zeroPg.c, .int .i64 (leaveK s c)]) := by
  refine pcall_nzt (r := .tup [.agg [.nils, .int .i64 0, .str [], .str [], .bool false, .int .i64 0, .int .i64 0, .int .i64 0, .int .i64 0, .nils], .int .i64 (leaveK s c)]) ?_ rfl (by simp)
  have h1 := self_call c w.iss w.sub
  have h2 := mcontains_call c.info.maps w.maps
  have hl := w.len
  unfold I64 at hl
  unfold leaveK at *
  rw [Pg.c.eq_1, Ce.c.eq_1] at *
  generalize selfB c = B at *
  generalize c.info.maps.any specB = M at *
  refine pcall_body Tryz.func41 rfl Tryz.call41 ?_ ?_
  rotate_left 1
  refine awp_slots (s' := (.agg [nmV s.issuer, .int .i64 s.key.h, .str s.key.id, .str s.key.root, .bool s.lists, .int .i64 s.len, .int .i64 s.expl, .int .i64 s.map, .int .i64 s.any, sbsV s.names] : V) :: (.agg [.str c.raw, .str c.tbs, .int .i64 c.serial, nmV c.issuer, nmV c.subject, .int .i64 c.nb, .int .i64 c.na, .int .i64 c.key.h, .str c.key.id, .str c.key.root, .bool c.info.basic, .bool c.info.ca, .int .i64 c.info.plen, .int .i64 c.info.usage, strV c.info.purposes, strV c.info.policies, mpsV c.info.maps, .int .i64 c.info.rexp, .int .i64 c.info.imap, .int .i64 c.info.iany, gnsV c.info.names, .bool c.info.hasC, gnsV c.info.cons.p, gnsV c.info.cons.x, .str c.info.sk, .str c.info.ak, ptsV c.info.points, ptsV c.info.fresh, exsV c.info.unk, .str c.sig] : V) :: zJ 133) rfl ?_; dsimp only [zJ]
  by_cases hM : M = true
  · subst hM
    rw [if_pos rfl]
    repeat' (first | ((first | refine Y0 rfl fun K9 h9 => ?_ | refine Y1 rfl rfl fun K9 h9 => ?_ | refine Y2 rfl rfl fun K9 h9 => ?_ | (refine Y3 ?_ ?_; (focus (simp; done)); intro K9 h9) | ((first | refine Y4 rfl ?_ ?_ | refine Y5 rfl ?_ ?_); (focus (simp; done)); intro K9 h9)); simp (disch := first | exact dd | fail); (try simp (disch := first | exact de | fail) only [X7]); ((first | refine Ap h1 ?_ | refine Ap h2 ?_ | skip) <;> ((repeat (refine Yz ?_)); (first | refine h9 _ _ (Ys ?_) | refine h9 _ _ (Yt ?_)); clear h9 K9))) | refine Y6 ?_ | refine Y7 ?_ | (refine Y8 fun K hK => ?_) | refine Y9 ?_ | (apply hK; clear hK K) | ((first | refine Yk (m := 0) (by decide +kernel) [] (by kernel_rfl) (by decide +kernel) ?_); simp only [List.replicate, XL]) | refine Ya ?_ | (refine Yb rfl ?_ ?_ <;> intro hcnd <;> (try simp at hcnd) <;> try exact dc) | refine Yc ?_ | (refine Yd ?_; simp only [X0, Nat.reduceBEq]) | (refine Ye ?_; refine Yf ?_) | (refine Yh ?_ ?_; (focus (simp; done)); refine Ys ?_) | ((first | refine Yi rfl ?_ ?_ | refine Yj rfl ?_ ?_); (focus (simp; done)); refine Yt ?_) | refine Yg ?_ | (simp only [X0, Nat.reduceBEq]) | clear hK K)
    simp
    exact .pure (by simp)
  obtain rfl : M = false := by simpa using hM
  rw [if_neg (by simp)] at h ⊢
  by_cases hca : c.info.ca = false
  · rw [if_pos hca]
    rw [hca] at h1
    repeat' (first | ((first | refine Y0 rfl fun K9 h9 => ?_ | refine Y1 rfl rfl fun K9 h9 => ?_ | refine Y2 rfl rfl fun K9 h9 => ?_ | (refine Y3 ?_ ?_; (focus (simp [hca]; done)); intro K9 h9) | ((first | refine Y4 rfl ?_ ?_ | refine Y5 rfl ?_ ?_); (focus (simp [hca]; done)); intro K9 h9)); simp (disch := first | exact dd | fail) [hca]; (try simp (disch := first | exact de | fail) only [X7]); ((first | refine Ap h1 ?_ | refine Ap h2 ?_ | skip) <;> ((repeat (refine Yz ?_)); (first | refine h9 _ _ (Ys ?_) | refine h9 _ _ (Yt ?_)); clear h9 K9))) | refine Y6 ?_ | refine Y7 ?_ | (refine Y8 fun K hK => ?_) | refine Y9 ?_ | (apply hK; clear hK K) | ((first | refine Yk (m := 0) (by decide +kernel) [] (by kernel_rfl) (by decide +kernel) ?_); simp only [List.replicate, XL]) | refine Ya ?_ | (refine Yb rfl ?_ ?_ <;> intro hcnd <;> (try simp at hcnd) <;> try exact dc) | refine Yc ?_ | (refine Yd ?_; simp only [X0, Nat.reduceBEq]) | (refine Ye ?_; refine Yf ?_) | (refine Yh ?_ ?_; (focus (simp [hca]; done)); refine Ys ?_) | ((first | refine Yi rfl ?_ ?_ | refine Yj rfl ?_ ?_); (focus (simp [hca]; done)); refine Yt ?_) | refine Yg ?_ | (simp only [X0, Nat.reduceBEq]) | clear hK K)
    simp
    exact .pure (by simp)
  replace hca : c.info.ca = true := by simpa using hca
  rw [hca, if_neg (by simp)] at h
  rw [hca] at h1
  rw [hca, if_neg (by simp)]
  by_cases hB : B = false ∧ s.len < 1
  · rw [if_pos hB]
    obtain ⟨rfl, hlt⟩ := hB
    repeat' (first | ((first | refine Y0 rfl fun K9 h9 => ?_ | refine Y1 rfl rfl fun K9 h9 => ?_ | refine Y2 rfl rfl fun K9 h9 => ?_ | (refine Y3 ?_ ?_; (focus (simp [hca, hlt]; done)); intro K9 h9) | ((first | refine Y4 rfl ?_ ?_ | refine Y5 rfl ?_ ?_); (focus (simp [hca, hlt]; done)); intro K9 h9)); simp (disch := first | exact dd | fail) [hca, hlt]; (try simp (disch := first | exact de | fail) only [X7]); ((first | refine Ap h1 ?_ | refine Ap h2 ?_ | skip) <;> ((repeat (refine Yz ?_)); (first | refine h9 _ _ (Ys ?_) | refine h9 _ _ (Yt ?_)); clear h9 K9))) | refine Y6 ?_ | refine Y7 ?_ | (refine Y8 fun K hK => ?_) | refine Y9 ?_ | (apply hK; clear hK K) | ((first | refine Yk (m := 0) (by decide +kernel) [] (by kernel_rfl) (by decide +kernel) ?_); simp only [List.replicate, XL]) | refine Ya ?_ | (refine Yb rfl ?_ ?_ <;> intro hcnd <;> (try simp at hcnd) <;> try exact dc) | refine Yc ?_ | (refine Yd ?_; simp only [X0, Nat.reduceBEq]) | (refine Ye ?_; refine Yf ?_) | (refine Yh ?_ ?_; (focus (simp [hca, hlt]; done)); refine Ys ?_) | ((first | refine Yi rfl ?_ ?_ | refine Yj rfl ?_ ?_); (focus (simp [hca, hlt]; done)); refine Yt ?_) | refine Yg ?_ | (simp only [X0, Nat.reduceBEq]) | clear hK K)
    simp
    exact .pure (by simp)
  rw [if_neg hB] at h ⊢
  by_cases hu : c.info.usage ≠ 0 ∧ bits .and .i64 c.info.usage 32 = 0
  · rw [if_pos hu]
    obtain ⟨hu1, hu2⟩ := hu
    cases B
    · have hlt : ¬ s.len < 1 := fun e => hB ⟨rfl, e⟩
      repeat' (first | ((first | refine Yl rfl fun K9 h9 => ?_ | refine Y1 rfl rfl fun K9 h9 => ?_ | refine Y2 rfl rfl fun K9 h9 => ?_ | (refine Ym ?_ ?_; (focus (simp [hca, hlt, hu1, hu2]; done)); intro K9 h9) | ((first | refine Y4 rfl ?_ ?_ | refine Y5 rfl ?_ ?_); (focus (simp [hca, hlt, hu1, hu2]; done)); intro K9 h9)); simp (disch := first | exact dd | fail) [hca, hlt, hu1, hu2]; (try simp (disch := first | exact de | fail) only [X7]); ((first | refine Ap h1 ?_ | refine Ap h2 ?_ | skip) <;> ((repeat (refine Yz ?_)); (first | refine h9 _ _ (Yp ?_) | refine h9 _ _ (Yt ?_)); clear h9 K9))) | refine Yo ?_ | refine Y7 ?_ | (refine Y8 fun K hK => ?_) | refine Yq ?_ | (apply hK; clear hK K) | ((first | refine Yk (m := 0) (by decide +kernel) [] (by kernel_rfl) (by decide +kernel) ?_); simp only [List.replicate, XL]) | refine Ya ?_ | (refine Yb rfl ?_ ?_ <;> intro hcnd <;> (try simp at hcnd) <;> try exact dc) | refine Yc ?_ | (refine Yd ?_; simp only [X0, Nat.reduceBEq]) | (refine Ye ?_; refine Yf ?_) | (refine Yn ?_ ?_; (focus (simp [hca, hlt, hu1, hu2]; done)); refine Yp ?_) | ((first | refine Yi rfl ?_ ?_ | refine Yj rfl ?_ ?_); (focus (simp [hca, hlt, hu1, hu2]; done)); refine Yt ?_) | refine Yg ?_ | (simp only [X0, Nat.reduceBEq]) | clear hK K)
      simp
      exact .pure (by simp)
    · repeat' (first | ((first | refine Yl rfl fun K9 h9 => ?_ | refine Y1 rfl rfl fun K9 h9 => ?_ | refine Y2 rfl rfl fun K9 h9 => ?_ | (refine Ym ?_ ?_; (focus (simp [hca, hu1, hu2]; done)); intro K9 h9) | ((first | refine Y4 rfl ?_ ?_ | refine Y5 rfl ?_ ?_); (focus (simp [hca, hu1, hu2]; done)); intro K9 h9)); simp (disch := first | exact dd | fail) [hca, hu1, hu2]; (try simp (disch := first | exact de | fail) only [X7]); ((first | refine Ap h1 ?_ | refine Ap h2 ?_ | skip) <;> ((repeat (refine Yz ?_)); (first | refine h9 _ _ (Yp ?_) | refine h9 _ _ (Yt ?_)); clear h9 K9))) | refine Yo ?_ | refine Y7 ?_ | (refine Y8 fun K hK => ?_) | refine Yq ?_ | (apply hK; clear hK K) | ((first | refine Yk (m := 0) (by decide +kernel) [] (by kernel_rfl) (by decide +kernel) ?_); simp only [List.replicate, XL]) | refine Ya ?_ | (refine Yb rfl ?_ ?_ <;> intro hcnd <;> (try simp at hcnd) <;> try exact dc) | refine Yc ?_ | (refine Yd ?_; simp only [X0, Nat.reduceBEq]) | (refine Ye ?_; refine Yf ?_) | (refine Yn ?_ ?_; (focus (simp [hca, hu1, hu2]; done)); refine Yp ?_) | ((first | refine Yi rfl ?_ ?_ | refine Yj rfl ?_ ?_); (focus (simp [hca, hu1, hu2]; done)); refine Yt ?_) | refine Yg ?_ | (simp only [X0, Nat.reduceBEq]) | clear hK K)
      simp
      exact .pure (by simp)
  rw [if_neg hu] at h
  exact absurd rfl h
  simp

end Go.Proofs.YtcfmanhblonjeaaGreatDoor
namespace Go.Proofs.YtcfmanhblonjeaaGreatDoor
open Go.VS Go.Stp
set_option linter.all false
set_option maxRecDepth 100000
set_option maxHeartbeats 8000000
attribute [local irreducible] arun arunD arunU AWp aend bits
theorem leave_main (s : Pg) (c : Ce) (w : WLv s c) (h : leaveK s c = 0) : PCall Tryz.prog 41 [.agg s.c, .agg c.c] (.tup [.agg (leaveP s c).c, .int .i64 0]) := by
  have h1 := self_call c w.iss w.sub
  have h2 := mcontains_call c.info.maps w.maps
  have h3 := cname_call c.subject w.sub
  have h4 := cstate_call s.names w.names
  have h5 := add_call s.names c.info.cons w.few w.names.2 w.cons
  have h6 : PCall Tryz.prog 64 [.agg [sbsV (s.names ++ [c.info.cons])]] (.agg [sbsV (s.names ++ [c.info.cons])]) := by
    refine cstate_call _ ⟨by have := w.few; simp; omega, fun x hx => ?_⟩
    simp at hx
    rcases hx with hx | rfl
    · exact w.names.2 x hx
    · exact w.cons
  have hl := w.len
  have he := w.expl
  have hmp := w.map
  have han := w.any
  unfold I64 at hl he hmp han
  unfold leaveK at h
  have e : (leaveP s c).c = [nmV c.subject, .int .i64 c.key.h, .str c.key.id, .str c.key.root, .bool (decide (c.info.usage = 0) || (bits .and .i64 c.info.usage 64 != 0)), .int .i64 (leastS (if selfB c then s.len else s.len - 1) c.info.plen), .int .i64 (leastS (fallS (selfB c) s.expl) c.info.rexp), .int .i64 (leastS (fallS (selfB c) s.map) c.info.imap), .int .i64 (leastS (fallS (selfB c) s.any) c.info.iany), sbsV (if c.info.hasC then s.names ++ [c.info.cons] else s.names)] := rfl
  rw [e]
  clear e
  replace h5 : PCall Tryz.prog 65 [.agg [sbsV s.names], .agg [gnsV c.info.cons.p, gnsV c.info.cons.x]] (.agg [sbsV (s.names ++ [c.info.cons])]) := h5
  rw [Pg.c.eq_1, Ce.c.eq_1] at *
  generalize selfB c = B at *
  generalize c.info.maps.any specB = M at *
  have hM : M = false := by cases M <;> simp at h ⊢
  subst hM
  rw [if_neg (by simp)] at h
  have hca : c.info.ca = true := by
    cases hca : c.info.ca
    · rw [hca] at h; simp at h
    · rfl
  rw [hca, if_neg (by simp)] at h
  by_cases hB : B = false ∧ s.len < 1
  · rw [if_pos hB] at h; simp at h
  rw [if_neg hB] at h
  by_cases hu : c.info.usage ≠ 0 ∧ bits .and .i64 c.info.usage 32 = 0
  · rw [if_pos hu] at h; simp at h
  clear h
  rw [hca] at h1
  obtain ⟨L, hLL⟩ : ∃ L, (decide (c.info.usage = 0) || (bits .and .i64 c.info.usage 64 != 0)) = L := ⟨_, rfl⟩
  obtain ⟨ns, hns⟩ : ∃ ns, (if c.info.hasC = true then s.names ++ [c.info.cons] else s.names) = ns := ⟨_, rfl⟩
  rw [hLL, hca, hns]
  refine pcall_body Tryz.func41 rfl Tryz.call41 ?_ ?_
  rotate_left 1
  refine awp_slots (s' := (.agg [nmV s.issuer, .int .i64 s.key.h, .str s.key.id, .str s.key.root, .bool s.lists, .int .i64 s.len, .int .i64 s.expl, .int .i64 s.map, .int .i64 s.any, sbsV s.names] : V) :: (.agg [.str c.raw, .str c.tbs, .int .i64 c.serial, nmV c.issuer, nmV c.subject, .int .i64 c.nb, .int .i64 c.na, .int .i64 c.key.h, .str c.key.id, .str c.key.root, .bool c.info.basic, .bool true, .int .i64 c.info.plen, .int .i64 c.info.usage, strV c.info.purposes, strV c.info.policies, mpsV c.info.maps, .int .i64 c.info.rexp, .int .i64 c.info.imap, .int .i64 c.info.iany, gnsV c.info.names, .bool c.info.hasC, gnsV c.info.cons.p, gnsV c.info.cons.x, .str c.info.sk, .str c.info.ak, ptsV c.info.points, ptsV c.info.fresh, exsV c.info.unk, .str c.sig] : V) :: zJ 133) rfl ?_; dsimp only [zJ]
  iterate 20 (first | ((first | refine Y0 rfl fun K9 h9 => ?_ | refine Y1 rfl rfl fun K9 h9 => ?_ | refine Y2 rfl rfl fun K9 h9 => ?_ | (refine Y3 ?_ ?_; (focus (simp [hca]; done)); intro K9 h9) | ((first | refine Y4 rfl ?_ ?_ | refine Y5 rfl ?_ ?_); (focus (simp [hca]; done)); intro K9 h9)); simp (disch := first | exact dd | fail) [hca]; (try simp (disch := first | exact de | fail) only [X7]); ((first | refine Ap h1 ?_ | skip) <;> ((repeat (refine Yz ?_)); (first | refine h9 _ _ (Ys ?_) | refine h9 _ _ (Yt ?_)); clear h9 K9))) | refine Y6 ?_ | refine Y7 ?_ | (refine Y8 fun K hK => ?_) | refine Y9 ?_ | (apply hK; clear hK K) | ((first | refine Yk (m := 0) (by decide +kernel) [] (by kernel_rfl) (by decide +kernel) ?_); simp only [List.replicate, XL]) | refine Ya ?_ | (refine Yb rfl ?_ ?_ <;> intro hcnd <;> (try simp at hcnd) <;> try exact dc) | refine Yc ?_ | (refine Yd ?_; simp only [X0, Nat.reduceBEq]) | (refine Ye ?_; refine Yf ?_) | (refine Yh ?_ ?_; (focus (simp [hca]; done)); refine Ys ?_) | ((first | refine Yi rfl ?_ ?_ | refine Yj rfl ?_ ?_); (focus (simp [hca]; done)); refine Yt ?_) | refine Yg ?_ | (simp only [X0, Nat.reduceBEq]) | (clear hK K; first | (apply hK; clear hK K) | (clear hK K; first | (apply hK; clear hK K) | (clear hK K; first | (apply hK; clear hK K) | (clear hK K; apply hK; clear hK K)))))
  refine awp_seq' fun K hK hL => ?_
  have main : K ((V.junk :: V.junk :: (V.ref 0 0) :: (V.ref 1 0) :: (V.ref 2 0) :: (V.int .i64 0) :: V.junk :: (V.bool B) :: V.junk :: V.junk :: V.junk :: V.junk :: V.junk :: V.junk :: V.junk :: V.junk :: V.junk :: V.junk :: V.junk :: V.junk :: V.junk :: V.junk :: V.junk :: V.junk :: V.junk :: V.junk :: V.junk :: V.junk :: V.junk :: V.junk :: V.junk :: V.junk :: V.junk :: V.junk :: V.junk :: V.junk :: V.junk :: V.junk :: V.junk :: V.junk :: V.junk :: V.junk :: V.junk :: V.junk :: V.junk :: V.junk :: V.junk :: V.junk :: V.junk :: V.junk :: V.junk :: V.junk :: V.junk :: V.junk :: V.junk :: V.junk :: V.junk :: V.junk :: V.junk :: V.junk :: V.junk :: V.junk :: V.junk :: V.junk :: V.junk :: V.junk :: V.junk :: V.junk :: V.junk :: V.junk :: V.junk :: V.junk :: V.junk :: V.junk :: V.junk :: V.junk :: V.junk :: V.junk :: V.junk :: V.junk :: V.junk :: V.junk :: V.junk :: V.junk :: V.junk :: V.junk :: V.junk :: V.junk :: V.junk :: V.junk :: V.junk :: V.junk :: V.junk :: V.junk :: V.junk :: V.junk :: V.junk :: V.junk :: V.junk :: V.junk :: V.junk :: V.junk :: V.junk :: V.junk :: V.junk :: V.junk :: V.junk :: V.junk :: V.junk :: V.junk :: V.junk :: V.junk :: V.junk :: V.junk :: V.junk :: V.junk :: V.junk :: V.junk :: V.junk :: V.junk :: V.junk :: V.junk :: V.junk :: V.junk :: V.junk :: V.junk :: V.junk :: V.junk :: V.junk :: V.junk :: V.junk :: V.junk :: V.junk :: V.junk :: V.junk :: [])) [.live [nmV s.issuer, .int .i64 s.key.h, .str s.key.id, .str s.key.root, .bool s.lists, .int .i64 s.len, .int .i64 s.expl, .int .i64 s.map, .int .i64 s.any, sbsV s.names], .live [.str c.raw, .str c.tbs, .int .i64 c.serial, nmV c.issuer, nmV c.subject, .int .i64 c.nb, .int .i64 c.na, .int .i64 c.key.h, .str c.key.id, .str c.key.root, .bool c.info.basic, .bool true, .int .i64 c.info.plen, .int .i64 c.info.usage, strV c.info.purposes, strV c.info.policies, mpsV c.info.maps, .int .i64 c.info.rexp, .int .i64 c.info.imap, .int .i64 c.info.iany, gnsV c.info.names, .bool c.info.hasC, gnsV c.info.cons.p, gnsV c.info.cons.x, .str c.info.sk, .str c.info.ak, ptsV c.info.points, ptsV c.info.fresh, exsV c.info.unk, .str c.sig], .live [.nils, .int .i64 0, .str [], .str [], .bool false, .int .i64 0, .int .i64 0, .int .i64 0, .int .i64 0, .nils]] := by
    refine hK _ _ ?_
    clear hK hL K
    refine awp_seq' fun K hK hL => ?_
    have main : K ((V.junk :: V.junk :: (V.ref 0 0) :: (V.ref 1 0) :: (V.ref 2 0) :: (V.int .i64 0) :: V.junk :: (V.bool B) :: V.junk :: V.junk :: V.junk :: V.junk :: V.junk :: V.junk :: V.junk :: V.junk :: V.junk :: V.junk :: V.junk :: V.junk :: V.junk :: V.junk :: V.junk :: V.junk :: V.junk :: V.junk :: V.junk :: V.junk :: V.junk :: V.junk :: V.junk :: V.junk :: V.junk :: V.junk :: V.junk :: V.junk :: V.junk :: V.junk :: V.junk :: V.junk :: V.junk :: V.junk :: V.junk :: V.junk :: V.junk :: V.junk :: V.junk :: V.junk :: V.junk :: V.junk :: V.junk :: V.junk :: V.junk :: V.junk :: V.junk :: V.junk :: V.junk :: V.junk :: V.junk :: V.junk :: V.junk :: V.junk :: V.junk :: V.junk :: V.junk :: V.junk :: V.junk :: V.junk :: V.junk :: V.junk :: V.junk :: V.junk :: V.junk :: V.junk :: V.junk :: V.junk :: V.junk :: V.junk :: V.junk :: V.junk :: V.junk :: V.junk :: V.junk :: V.junk :: V.junk :: V.junk :: V.junk :: V.junk :: V.junk :: V.junk :: V.junk :: V.junk :: V.junk :: V.junk :: V.junk :: V.junk :: V.junk :: V.junk :: V.junk :: V.junk :: V.junk :: V.junk :: V.junk :: V.junk :: V.junk :: V.junk :: V.junk :: V.junk :: V.junk :: V.junk :: V.junk :: V.junk :: V.junk :: V.junk :: V.junk :: V.junk :: V.junk :: V.junk :: V.junk :: V.junk :: V.junk :: V.junk :: V.junk :: V.junk :: V.junk :: V.junk :: V.junk :: V.junk :: V.junk :: V.junk :: V.junk :: V.junk :: V.junk :: V.junk :: V.junk :: [])) [.live [nmV c.subject, .int .i64 c.key.h, .str c.key.id, .str c.key.root, .bool L, .int .i64 s.len, .int .i64 s.expl, .int .i64 s.map, .int .i64 s.any, sbsV s.names], .live [.str c.raw, .str c.tbs, .int .i64 c.serial, nmV c.issuer, nmV c.subject, .int .i64 c.nb, .int .i64 c.na, .int .i64 c.key.h, .str c.key.id, .str c.key.root, .bool c.info.basic, .bool true, .int .i64 c.info.plen, .int .i64 c.info.usage, strV c.info.purposes, strV c.info.policies, mpsV c.info.maps, .int .i64 c.info.rexp, .int .i64 c.info.imap, .int .i64 c.info.iany, gnsV c.info.names, .bool c.info.hasC, gnsV c.info.cons.p, gnsV c.info.cons.x, .str c.info.sk, .str c.info.ak, ptsV c.info.points, ptsV c.info.fresh, exsV c.info.unk, .str c.sig], .live [.nils, .int .i64 0, .str [], .str [], .bool false, .int .i64 0, .int .i64 0, .int .i64 0, .int .i64 0, .nils]] := by
      refine hK _ _ ?_
      clear hK hL K
      clear hLL
      iterate 9 (first | ((first | refine Y0 rfl fun K9 h9 => ?_ | refine Y1 rfl rfl fun K9 h9 => ?_ | refine Y2 rfl rfl fun K9 h9 => ?_ | (refine Y3 ?_ ?_; (focus (simp; done)); intro K9 h9) | ((first | refine Y4 rfl ?_ ?_ | refine Y5 rfl ?_ ?_); (focus (simp; done)); intro K9 h9)); simp (disch := first | exact dd | fail); (try simp (disch := first | exact de | fail) only [X7]); ((first | refine Ap h4 ?_ | skip) <;> ((repeat (refine Yz ?_)); (first | refine h9 _ _ (Ys ?_) | refine h9 _ _ (Yt ?_)); clear h9 K9))) | refine Y6 ?_ | refine Y7 ?_ | (refine Y8 fun K hK => ?_) | refine Y9 ?_ | (apply hK; clear hK K) | ((first | refine Yk (m := 0) (by decide +kernel) [] (by kernel_rfl) (by decide +kernel) ?_); simp only [List.replicate, XL]) | refine Ya ?_ | (refine Yb rfl ?_ ?_ <;> intro hcnd <;> (try simp at hcnd) <;> try exact dc) | refine Yc ?_ | (refine Yd ?_; simp only [X0, Nat.reduceBEq]) | (refine Ye ?_; refine Yf ?_) | (refine Yh ?_ ?_; (focus (simp; done)); refine Ys ?_) | ((first | refine Yi rfl ?_ ?_ | refine Yj rfl ?_ ?_); (focus (simp; done)); refine Yt ?_) | refine Yg ?_ | (simp only [X0, Nat.reduceBEq]) | (clear hK K; first | (apply hK; clear hK K) | (clear hK K; first | (apply hK; clear hK K) | (clear hK K; first | (apply hK; clear hK K) | (clear hK K; apply hK; clear hK K)))))
      refine awp_seq' fun K hK hL => ?_
      have main : K ((V.junk :: V.junk :: (V.ref 0 0) :: (V.ref 1 0) :: (V.ref 2 0) :: (V.int .i64 0) :: V.junk :: (V.bool B) :: V.junk :: V.junk :: V.junk :: V.junk :: V.junk :: V.junk :: V.junk :: V.junk :: V.junk :: V.junk :: V.junk :: V.junk :: V.junk :: V.junk :: V.junk :: V.junk :: V.junk :: V.junk :: V.junk :: V.junk :: V.junk :: V.junk :: V.junk :: V.junk :: V.junk :: V.junk :: V.junk :: V.junk :: V.junk :: V.junk :: V.junk :: V.junk :: V.junk :: V.junk :: V.junk :: V.junk :: V.junk :: V.junk :: V.junk :: V.junk :: V.junk :: V.junk :: V.junk :: V.junk :: V.junk :: V.junk :: V.junk :: V.junk :: V.junk :: V.junk :: V.junk :: V.junk :: V.junk :: V.junk :: V.junk :: V.junk :: V.junk :: V.junk :: V.junk :: V.junk :: V.junk :: V.junk :: V.junk :: V.junk :: V.junk :: V.junk :: V.junk :: V.junk :: V.junk :: V.junk :: V.junk :: V.junk :: V.junk :: V.junk :: V.junk :: V.junk :: V.junk :: V.junk :: V.junk :: V.junk :: V.junk :: V.junk :: V.junk :: V.junk :: V.junk :: V.junk :: V.junk :: V.junk :: V.junk :: V.junk :: V.junk :: V.junk :: V.junk :: V.junk :: V.junk :: V.junk :: V.junk :: V.junk :: V.junk :: V.junk :: V.junk :: V.junk :: V.junk :: V.junk :: V.junk :: V.junk :: V.junk :: V.junk :: V.junk :: V.junk :: V.junk :: V.junk :: V.junk :: V.junk :: V.junk :: V.junk :: V.junk :: V.junk :: V.junk :: V.junk :: V.junk :: V.junk :: V.junk :: V.junk :: V.junk :: V.junk :: V.junk :: [])) [.live [nmV c.subject, .int .i64 c.key.h, .str c.key.id, .str c.key.root, .bool L, .int .i64 s.len, .int .i64 s.expl, .int .i64 s.map, .int .i64 s.any, sbsV ns], .live [.str c.raw, .str c.tbs, .int .i64 c.serial, nmV c.issuer, nmV c.subject, .int .i64 c.nb, .int .i64 c.na, .int .i64 c.key.h, .str c.key.id, .str c.key.root, .bool c.info.basic, .bool true, .int .i64 c.info.plen, .int .i64 c.info.usage, strV c.info.purposes, strV c.info.policies, mpsV c.info.maps, .int .i64 c.info.rexp, .int .i64 c.info.imap, .int .i64 c.info.iany, gnsV c.info.names, .bool c.info.hasC, gnsV c.info.cons.p, gnsV c.info.cons.x, .str c.info.sk, .str c.info.ak, ptsV c.info.points, ptsV c.info.fresh, exsV c.info.unk, .str c.sig], .live [.nils, .int .i64 0, .str [], .str [], .bool false, .int .i64 0, .int .i64 0, .int .i64 0, .int .i64 0, .nils]] := by
        refine hK _ _ ?_
        clear hK hL K
        clear hns
        refine awp_seq' fun K hK hL0 => ?_
        have main : K ((V.junk :: V.junk :: (V.ref 0 0) :: (V.ref 1 0) :: (V.ref 2 0) :: V.junk :: V.junk :: V.junk :: V.junk :: V.junk :: V.junk :: V.junk :: V.junk :: V.junk :: V.junk :: V.junk :: V.junk :: V.junk :: V.junk :: V.junk :: V.junk :: V.junk :: V.junk :: V.junk :: V.junk :: V.junk :: V.junk :: V.junk :: V.junk :: V.junk :: V.junk :: V.junk :: V.junk :: V.junk :: V.junk :: V.junk :: V.junk :: V.junk :: V.junk :: V.junk :: V.junk :: V.junk :: V.junk :: V.junk :: V.junk :: V.junk :: V.junk :: V.junk :: V.junk :: V.junk :: V.junk :: V.junk :: V.junk :: V.junk :: V.junk :: V.junk :: V.junk :: V.junk :: V.junk :: V.junk :: V.junk :: V.junk :: V.junk :: V.junk :: V.junk :: V.junk :: V.junk :: V.junk :: V.junk :: V.junk :: V.junk :: V.junk :: V.junk :: V.junk :: V.junk :: V.junk :: V.junk :: V.junk :: V.junk :: V.junk :: V.junk :: V.junk :: V.junk :: V.junk :: V.junk :: V.junk :: V.junk :: V.junk :: V.junk :: V.junk :: V.junk :: V.junk :: V.junk :: V.junk :: V.junk :: V.junk :: V.junk :: V.junk :: V.junk :: V.junk :: V.junk :: V.junk :: V.junk :: V.junk :: V.junk :: V.junk :: V.junk :: V.junk :: V.junk :: V.junk :: V.junk :: V.junk :: V.junk :: V.junk :: V.junk :: V.junk :: V.junk :: V.junk :: V.junk :: V.junk :: V.junk :: V.junk :: V.junk :: V.junk :: V.junk :: V.junk :: V.junk :: V.junk :: V.junk :: V.junk :: V.junk :: V.junk :: V.junk :: V.junk :: V.junk :: [])) [.live [nmV c.subject, .int .i64 c.key.h, .str c.key.id, .str c.key.root, .bool L, .int .i64 (if B = true then s.len else s.len - 1), .int .i64 (fallS B s.expl), .int .i64 (fallS B s.map), .int .i64 (fallS B s.any), sbsV ns], .live [.str c.raw, .str c.tbs, .int .i64 c.serial, nmV c.issuer, nmV c.subject, .int .i64 c.nb, .int .i64 c.na, .int .i64 c.key.h, .str c.key.id, .str c.key.root, .bool c.info.basic, .bool true, .int .i64 c.info.plen, .int .i64 c.info.usage, strV c.info.purposes, strV c.info.policies, mpsV c.info.maps, .int .i64 c.info.rexp, .int .i64 c.info.imap, .int .i64 c.info.iany, gnsV c.info.names, .bool c.info.hasC, gnsV c.info.cons.p, gnsV c.info.cons.x, .str c.info.sk, .str c.info.ak, ptsV c.info.points, ptsV c.info.fresh, exsV c.info.unk, .str c.sig], .live [.nils, .int .i64 0, .str [], .str [], .bool false, .int .i64 0, .int .i64 0, .int .i64 0, .int .i64 0, .nils]] := by
          refine hK _ _ ?_
          clear hK hL0 K
          generalize (if B = true then s.len else s.len - 1) = n1 at *
          generalize fallS B s.expl = n2 at *
          generalize fallS B s.map = n3 at *
          generalize fallS B s.any = n4 at *
          repeat' (first | ((first | refine Y0 rfl fun K9 h9 => ?_ | refine Y1 rfl rfl fun K9 h9 => ?_ | refine Y2 rfl rfl fun K9 h9 => ?_ | (refine Y3 ?_ ?_; (focus (simp; done)); intro K9 h9) | ((first | refine Y4 rfl ?_ ?_ | refine Y5 rfl ?_ ?_); (focus (simp; done)); intro K9 h9)); simp (disch := first | exact dd | fail); (try simp (disch := first | exact de | fail) only [X7]); ((first | refine Ap (least_call _ _) ?_ | refine ⟨_, least_call _ _, ?_⟩ | skip) <;> ((repeat (refine Yz ?_)); (first | refine h9 _ _ (Ys ?_) | refine h9 _ _ (Yt ?_)); clear h9 K9))) | refine Y6 ?_ | refine Y7 ?_ | (refine Y8 fun K hK => ?_) | refine Y9 ?_ | (apply hK; clear hK K) | ((first | refine Yk (m := 0) (by decide +kernel) [0, 0, 0, 0, 0, 1, 0, 0, 0, 0, 0, 1, 0, 0, 0, 0, 0, 1] (by kernel_rfl) (by decide +kernel) ?_ | refine Yk (m := 0) (by decide +kernel) [] (by kernel_rfl) (by decide +kernel) ?_); simp only [List.replicate, XL]) | refine Ya ?_ | (refine Yb rfl ?_ ?_ <;> intro hcnd <;> (try simp at hcnd) <;> try exact dc) | refine Yc ?_ | (refine Yd ?_; simp only [X0, Nat.reduceBEq]) | (refine Ye ?_; refine Yf ?_) | (refine Yh ?_ ?_; (focus (simp; done)); refine Ys ?_) | ((first | refine Yi rfl ?_ ?_ | refine Yj rfl ?_ ?_); (focus (simp; done)); refine Yt ?_) | refine Yg ?_ | (simp only [X0, Nat.reduceBEq]) | clear hK K)
          simp
          exact .pure (by simp)

        cases B
        · have hlt : ¬ s.len < 1 := fun e => hB ⟨rfl, e⟩
          repeat' (first | ((first | refine Y0 rfl fun K9 h9 => ?_ | refine Y1 rfl rfl fun K9 h9 => ?_ | refine Y2 rfl rfl fun K9 h9 => ?_ | (refine Y3 ?_ ?_; (focus (simp; done)); intro K9 h9) | ((first | refine Y4 rfl ?_ ?_ | refine Y5 rfl ?_ ?_); (focus (simp; done)); intro K9 h9)); simp (disch := first | exact dd | fail); (try simp (disch := first | exact de | fail) only [X7]); ((repeat (refine Yz ?_)); (first | refine h9 _ _ (Ys ?_) | refine h9 _ _ (Yt ?_)); clear h9 K9)) | refine Y6 ?_ | refine Y7 ?_ | (refine Y8 fun K hK => ?_) | refine Y9 ?_ | (apply hK; clear hK K) | ((first | refine Yk (m := 0) (by decide +kernel) [] (by kernel_rfl) (by decide +kernel) ?_); simp only [List.replicate, XL]) | refine Ya ?_ | (refine Yb rfl ?_ ?_ <;> intro hcnd <;> (try simp at hcnd) <;> try exact dc) | refine Yc ?_ | (refine Yd ?_; simp only [X0, Nat.reduceBEq]) | (refine Ye ?_; refine Yf ?_) | (refine Yh ?_ ?_; (focus (simp; done)); refine Ys ?_) | ((first | refine Yi rfl ?_ ?_ | refine Yj rfl ?_ ?_); (focus (simp; done)); refine Yt ?_) | refine Yg ?_ | (simp only [X0, Nat.reduceBEq]) | clear hK K)
          refine awp_countU (fun i => (zS 2 (zN 3 (zS 3 (none :: zS 81 (zN 2 (some (V.int .i64 i) :: zS 42 []))))))) (fun i => [.live [nmV c.subject, .int .i64 c.key.h, .str c.key.id, .str c.key.root, .bool L, .int .i64 (s.len - 1), .int .i64 (if 1 ≤ i then decS s.expl else s.expl), .int .i64 (if 2 ≤ i then decS s.map else s.map), .int .i64 (if 3 ≤ i then decS s.any else s.any), sbsV ns], .live [.str c.raw, .str c.tbs, .int .i64 c.serial, nmV c.issuer, nmV c.subject, .int .i64 c.nb, .int .i64 c.na, .int .i64 c.key.h, .str c.key.id, .str c.key.root, .bool c.info.basic, .bool true, .int .i64 c.info.plen, .int .i64 c.info.usage, strV c.info.purposes, strV c.info.policies, mpsV c.info.maps, .int .i64 c.info.rexp, .int .i64 c.info.imap, .int .i64 c.info.iany, gnsV c.info.names, .bool c.info.hasC, gnsV c.info.cons.p, gnsV c.info.cons.x, .str c.info.sk, .str c.info.ak, ptsV c.info.points, ptsV c.info.fresh, exsV c.info.unk, .str c.sig], .live [.nils, .int .i64 0, .str [], .str [], .bool false, .int .i64 0, .int .i64 0, .int .i64 0, .int .i64 0, .nils], .live [.ref 0 6, .ref 0 7, .ref 0 8]]) 3 ?_ fun i hi KL hL => ?_
          · dsimp only [ups, zN, zS]
            exact Yr [some 0, some 1, some 2, some 3] (by simp [rowsOver, rowRen_live])
          dsimp only [ups, zN, zS]
          match i, hi with
          | 0, _ =>
            by_cases hx : 0 < s.expl
            · repeat' (first | ((first | refine Y0 rfl fun K9 h9 => ?_ | refine Y1 rfl rfl fun K9 h9 => ?_ | refine Y2 rfl rfl fun K9 h9 => ?_ | (refine Y3 ?_ ?_; (focus (simp [hx]; done)); intro K9 h9) | ((first | refine Y4 rfl ?_ ?_ | refine Y5 rfl ?_ ?_); (focus (simp [hx]; done)); intro K9 h9)); simp (disch := first | exact dd | fail) [hx]; (try simp (disch := first | exact de | fail) only [X7]); ((repeat (refine Yz ?_)); (first | refine h9 _ _ (Ys ?_) | refine h9 _ _ (Yt ?_)); clear h9 K9)) | refine Y6 ?_ | refine Y7 ?_ | (refine Y8 fun K hK => ?_) | refine Y9 ?_ | (apply hK; clear hK K) | ((first | refine Yk (m := 0) (by decide +kernel) [] (by kernel_rfl) (by decide +kernel) ?_); simp only [List.replicate, XL]) | refine Ya ?_ | (refine Yb rfl ?_ ?_ <;> intro hcnd <;> (try simp at hcnd) <;> try exact dc) | refine Yc ?_ | (refine Yd ?_; simp only [X0, Nat.reduceBEq]) | (refine Ye ?_; refine Yf ?_) | (refine Yh ?_ ?_; (focus (simp [hx]; done)); refine Ys ?_) | ((first | refine Yi rfl ?_ ?_ | refine Yj rfl ?_ ?_); (focus (simp [hx]; done)); refine Yt ?_) | refine Yg ?_ | (simp only [X0, Nat.reduceBEq]) | clear hK K)
              refine hL _ _ (by omega) ?_
              exact Yr [some 0, some 1, some 2, some 3] (by simp [rowsOver, rowRen_live, decS, hx])
            · repeat' (first | ((first | refine Y0 rfl fun K9 h9 => ?_ | refine Y1 rfl rfl fun K9 h9 => ?_ | refine Y2 rfl rfl fun K9 h9 => ?_ | (refine Y3 ?_ ?_; (focus (simp [hx]; done)); intro K9 h9) | ((first | refine Y4 rfl ?_ ?_ | refine Y5 rfl ?_ ?_); (focus (simp [hx]; done)); intro K9 h9)); simp (disch := first | exact dd | fail) [hx]; (try simp (disch := first | exact de | fail) only [X7]); ((repeat (refine Yz ?_)); (first | refine h9 _ _ (Ys ?_) | refine h9 _ _ (Yt ?_)); clear h9 K9)) | refine Y6 ?_ | refine Y7 ?_ | (refine Y8 fun K hK => ?_) | refine Y9 ?_ | (apply hK; clear hK K) | ((first | refine Yk (m := 0) (by decide +kernel) [] (by kernel_rfl) (by decide +kernel) ?_); simp only [List.replicate, XL]) | refine Ya ?_ | (refine Yb rfl ?_ ?_ <;> intro hcnd <;> (try simp at hcnd) <;> try exact dc) | refine Yc ?_ | (refine Yd ?_; simp only [X0, Nat.reduceBEq]) | (refine Ye ?_; refine Yf ?_) | (refine Yh ?_ ?_; (focus (simp [hx]; done)); refine Ys ?_) | ((first | refine Yi rfl ?_ ?_ | refine Yj rfl ?_ ?_); (focus (simp [hx]; done)); refine Yt ?_) | refine Yg ?_ | (simp only [X0, Nat.reduceBEq]) | clear hK K)
              refine hL _ _ (by omega) ?_
              exact Yr [some 0, some 1, some 2, some 3] (by simp [rowsOver, rowRen_live, decS, hx])
          | 1, _ =>
            by_cases hx : 0 < s.map
            · repeat' (first | ((first | refine Y0 rfl fun K9 h9 => ?_ | refine Y1 rfl rfl fun K9 h9 => ?_ | refine Y2 rfl rfl fun K9 h9 => ?_ | (refine Y3 ?_ ?_; (focus (simp [hx]; done)); intro K9 h9) | ((first | refine Y4 rfl ?_ ?_ | refine Y5 rfl ?_ ?_); (focus (simp [hx]; done)); intro K9 h9)); simp (disch := first | exact dd | fail) [hx]; (try simp (disch := first | exact de | fail) only [X7]); ((repeat (refine Yz ?_)); (first | refine h9 _ _ (Ys ?_) | refine h9 _ _ (Yt ?_)); clear h9 K9)) | refine Y6 ?_ | refine Y7 ?_ | (refine Y8 fun K hK => ?_) | refine Y9 ?_ | (apply hK; clear hK K) | ((first | refine Yk (m := 0) (by decide +kernel) [] (by kernel_rfl) (by decide +kernel) ?_); simp only [List.replicate, XL]) | refine Ya ?_ | (refine Yb rfl ?_ ?_ <;> intro hcnd <;> (try simp at hcnd) <;> try exact dc) | refine Yc ?_ | (refine Yd ?_; simp only [X0, Nat.reduceBEq]) | (refine Ye ?_; refine Yf ?_) | (refine Yh ?_ ?_; (focus (simp [hx]; done)); refine Ys ?_) | ((first | refine Yi rfl ?_ ?_ | refine Yj rfl ?_ ?_); (focus (simp [hx]; done)); refine Yt ?_) | refine Yg ?_ | (simp only [X0, Nat.reduceBEq]) | clear hK K)
              refine hL _ _ (by omega) ?_
              exact Yr [some 0, some 1, some 2, some 3] (by simp [rowsOver, rowRen_live, decS, hx])
            · repeat' (first | ((first | refine Y0 rfl fun K9 h9 => ?_ | refine Y1 rfl rfl fun K9 h9 => ?_ | refine Y2 rfl rfl fun K9 h9 => ?_ | (refine Y3 ?_ ?_; (focus (simp [hx]; done)); intro K9 h9) | ((first | refine Y4 rfl ?_ ?_ | refine Y5 rfl ?_ ?_); (focus (simp [hx]; done)); intro K9 h9)); simp (disch := first | exact dd | fail) [hx]; (try simp (disch := first | exact de | fail) only [X7]); ((repeat (refine Yz ?_)); (first | refine h9 _ _ (Ys ?_) | refine h9 _ _ (Yt ?_)); clear h9 K9)) | refine Y6 ?_ | refine Y7 ?_ | (refine Y8 fun K hK => ?_) | refine Y9 ?_ | (apply hK; clear hK K) | ((first | refine Yk (m := 0) (by decide +kernel) [] (by kernel_rfl) (by decide +kernel) ?_); simp only [List.replicate, XL]) | refine Ya ?_ | (refine Yb rfl ?_ ?_ <;> intro hcnd <;> (try simp at hcnd) <;> try exact dc) | refine Yc ?_ | (refine Yd ?_; simp only [X0, Nat.reduceBEq]) | (refine Ye ?_; refine Yf ?_) | (refine Yh ?_ ?_; (focus (simp [hx]; done)); refine Ys ?_) | ((first | refine Yi rfl ?_ ?_ | refine Yj rfl ?_ ?_); (focus (simp [hx]; done)); refine Yt ?_) | refine Yg ?_ | (simp only [X0, Nat.reduceBEq]) | clear hK K)
              refine hL _ _ (by omega) ?_
              exact Yr [some 0, some 1, some 2, some 3] (by simp [rowsOver, rowRen_live, decS, hx])
          | 2, _ =>
            by_cases hx : 0 < s.any
            · repeat' (first | ((first | refine Y0 rfl fun K9 h9 => ?_ | refine Y1 rfl rfl fun K9 h9 => ?_ | refine Y2 rfl rfl fun K9 h9 => ?_ | (refine Y3 ?_ ?_; (focus (simp [hx]; done)); intro K9 h9) | ((first | refine Y4 rfl ?_ ?_ | refine Y5 rfl ?_ ?_); (focus (simp [hx]; done)); intro K9 h9)); simp (disch := first | exact dd | fail) [hx]; (try simp (disch := first | exact de | fail) only [X7]); ((repeat (refine Yz ?_)); (first | refine h9 _ _ (Ys ?_) | refine h9 _ _ (Yt ?_)); clear h9 K9)) | refine Y6 ?_ | refine Y7 ?_ | (refine Y8 fun K hK => ?_) | refine Y9 ?_ | (apply hK; clear hK K) | ((first | refine Yk (m := 0) (by decide +kernel) [] (by kernel_rfl) (by decide +kernel) ?_); simp only [List.replicate, XL]) | refine Ya ?_ | (refine Yb rfl ?_ ?_ <;> intro hcnd <;> (try simp at hcnd) <;> try exact dc) | refine Yc ?_ | (refine Yd ?_; simp only [X0, Nat.reduceBEq]) | (refine Ye ?_; refine Yf ?_) | (refine Yh ?_ ?_; (focus (simp [hx]; done)); refine Ys ?_) | ((first | refine Yi rfl ?_ ?_ | refine Yj rfl ?_ ?_); (focus (simp [hx]; done)); refine Yt ?_) | refine Yg ?_ | (simp only [X0, Nat.reduceBEq]) | clear hK K)
              refine hL _ _ (by omega) ?_
              exact Yr [some 0, some 1, some 2, some 3] (by simp [rowsOver, rowRen_live, decS, hx])
            · repeat' (first | ((first | refine Y0 rfl fun K9 h9 => ?_ | refine Y1 rfl rfl fun K9 h9 => ?_ | refine Y2 rfl rfl fun K9 h9 => ?_ | (refine Y3 ?_ ?_; (focus (simp [hx]; done)); intro K9 h9) | ((first | refine Y4 rfl ?_ ?_ | refine Y5 rfl ?_ ?_); (focus (simp [hx]; done)); intro K9 h9)); simp (disch := first | exact dd | fail) [hx]; (try simp (disch := first | exact de | fail) only [X7]); ((repeat (refine Yz ?_)); (first | refine h9 _ _ (Ys ?_) | refine h9 _ _ (Yt ?_)); clear h9 K9)) | refine Y6 ?_ | refine Y7 ?_ | (refine Y8 fun K hK => ?_) | refine Y9 ?_ | (apply hK; clear hK K) | ((first | refine Yk (m := 0) (by decide +kernel) [] (by kernel_rfl) (by decide +kernel) ?_); simp only [List.replicate, XL]) | refine Ya ?_ | (refine Yb rfl ?_ ?_ <;> intro hcnd <;> (try simp at hcnd) <;> try exact dc) | refine Yc ?_ | (refine Yd ?_; simp only [X0, Nat.reduceBEq]) | (refine Ye ?_; refine Yf ?_) | (refine Yh ?_ ?_; (focus (simp [hx]; done)); refine Ys ?_) | ((first | refine Yi rfl ?_ ?_ | refine Yj rfl ?_ ?_); (focus (simp [hx]; done)); refine Yt ?_) | refine Yg ?_ | (simp only [X0, Nat.reduceBEq]) | clear hK K)
              refine hL _ _ (by omega) ?_
              exact Yr [some 0, some 1, some 2, some 3] (by simp [rowsOver, rowRen_live, decS, hx])
          | 3, _ =>
            repeat' (first | ((first | refine Y0 rfl fun K9 h9 => ?_ | refine Y1 rfl rfl fun K9 h9 => ?_ | refine Y2 rfl rfl fun K9 h9 => ?_ | (refine Y3 ?_ ?_; (focus (simp; done)); intro K9 h9) | ((first | refine Y4 rfl ?_ ?_ | refine Y5 rfl ?_ ?_); (focus (simp; done)); intro K9 h9)); simp (disch := first | exact dd | fail); (try simp (disch := first | exact de | fail) only [X7]); ((repeat (refine Yz ?_)); (first | refine h9 _ _ (Ys ?_) | refine h9 _ _ (Yt ?_)); clear h9 K9)) | refine Y6 ?_ | refine Y7 ?_ | (refine Y8 fun K hK => ?_) | refine Y9 ?_ | (apply hK; clear hK K) | ((first | refine Yk (m := 0) (by decide +kernel) [] (by kernel_rfl) (by decide +kernel) ?_); simp only [List.replicate, XL]) | refine Ya ?_ | (refine Yb rfl ?_ ?_ <;> intro hcnd <;> (try simp at hcnd) <;> try exact dc) | refine Yc ?_ | (refine Yd ?_; simp only [X0, Nat.reduceBEq]) | (refine Ye ?_; refine Yf ?_) | (refine Yh ?_ ?_; (focus (simp; done)); refine Ys ?_) | ((first | refine Yi rfl ?_ ?_ | refine Yj rfl ?_ ?_); (focus (simp; done)); refine Yt ?_) | refine Yg ?_ | (simp only [X0, Nat.reduceBEq]) | clear hK K)
            refine hL0 _ _ _ _ ?_ main
            exact Yr [some 0, some 1, some 2] (by simp [rowsOver, rowRen_live, fallS])
        · repeat' (first | ((first | refine Y0 rfl fun K9 h9 => ?_ | refine Y1 rfl rfl fun K9 h9 => ?_ | refine Y2 rfl rfl fun K9 h9 => ?_ | (refine Y3 ?_ ?_; (focus (simp; done)); intro K9 h9) | ((first | refine Y4 rfl ?_ ?_ | refine Y5 rfl ?_ ?_); (focus (simp; done)); intro K9 h9)); simp (disch := first | exact dd | fail); (try simp (disch := first | exact de | fail) only [X7]); ((repeat (refine Yz ?_)); (first | refine h9 _ _ (Ys ?_) | refine h9 _ _ (Yt ?_)); clear h9 K9)) | refine Y6 ?_ | refine Y7 ?_ | (refine Y8 fun K hK => ?_) | refine Y9 ?_ | (apply hK; clear hK K) | ((first | refine Yk (m := 0) (by decide +kernel) [] (by kernel_rfl) (by decide +kernel) ?_); simp only [List.replicate, XL]) | refine Ya ?_ | (refine Yb rfl ?_ ?_ <;> intro hcnd <;> (try simp at hcnd) <;> try exact dc) | refine Yc ?_ | (refine Yd ?_; simp only [X0, Nat.reduceBEq]) | (refine Ye ?_; refine Yf ?_) | (refine Yh ?_ ?_; (focus (simp; done)); refine Ys ?_) | ((first | refine Yi rfl ?_ ?_ | refine Yj rfl ?_ ?_); (focus (simp; done)); refine Yt ?_) | refine Yg ?_ | (simp only [X0, Nat.reduceBEq]) | clear hK K)
          refine hL0 _ _ _ _ ?_ main
          exact Yr [some 0, some 1, some 2] (by simp [rowsOver, fallS])

      by_cases hC : c.info.hasC = true
      · obtain rfl : s.names ++ [c.info.cons] = ns := by rw [← hns, if_pos hC]
        repeat' (first | ((first | refine Y0 rfl fun K9 h9 => ?_ | refine Y1 rfl rfl fun K9 h9 => ?_ | refine Y2 rfl rfl fun K9 h9 => ?_ | (refine Y3 ?_ ?_; (focus (simp [hC]; done)); intro K9 h9) | ((first | refine Y4 rfl ?_ ?_ | refine Y5 rfl ?_ ?_); (focus (simp [hC]; done)); intro K9 h9)); simp (disch := first | exact dd | fail) [hC]; (try simp (disch := first | exact de | fail) only [X7]); ((first | refine Ap h4 ?_ | refine Ap h5 ?_ | refine Ap h6 ?_ | skip) <;> ((repeat (refine Yz ?_)); (first | refine h9 _ _ (Ys ?_) | refine h9 _ _ (Yt ?_)); clear h9 K9))) | refine Y6 ?_ | refine Y7 ?_ | (refine Y8 fun K hK => ?_) | refine Y9 ?_ | (apply hK; clear hK K) | ((first | refine Yk (m := 0) (by decide +kernel) [] (by kernel_rfl) (by decide +kernel) ?_); simp only [List.replicate, XL]) | refine Ya ?_ | (refine Yb rfl ?_ ?_ <;> intro hcnd <;> (try simp at hcnd) <;> try exact dc) | refine Yc ?_ | (refine Yd ?_; simp only [X0, Nat.reduceBEq]) | (refine Ye ?_; refine Yf ?_) | (refine Yh ?_ ?_; (focus (simp [hC]; done)); refine Ys ?_) | ((first | refine Yi rfl ?_ ?_ | refine Yj rfl ?_ ?_); (focus (simp [hC]; done)); refine Yt ?_) | refine Yg ?_ | (simp only [X0, Nat.reduceBEq]) | clear hK K)
        refine hL _ _ _ _ ?_ main
        exact Yr [some 0, some 1, some 2] (by simp [rowsOver, hC])
      · obtain rfl : s.names = ns := by rw [← hns, if_neg hC]
        repeat' (first | ((first | refine Y0 rfl fun K9 h9 => ?_ | refine Y1 rfl rfl fun K9 h9 => ?_ | refine Y2 rfl rfl fun K9 h9 => ?_ | (refine Y3 ?_ ?_; (focus (simp [hC]; done)); intro K9 h9) | ((first | refine Y4 rfl ?_ ?_ | refine Y5 rfl ?_ ?_); (focus (simp [hC]; done)); intro K9 h9)); simp (disch := first | exact dd | fail) [hC]; (try simp (disch := first | exact de | fail) only [X7]); ((first | refine Ap h4 ?_ | refine Ap h5 ?_ | refine Ap h6 ?_ | skip) <;> ((repeat (refine Yz ?_)); (first | refine h9 _ _ (Ys ?_) | refine h9 _ _ (Yt ?_)); clear h9 K9))) | refine Y6 ?_ | refine Y7 ?_ | (refine Y8 fun K hK => ?_) | refine Y9 ?_ | (apply hK; clear hK K) | ((first | refine Yk (m := 0) (by decide +kernel) [] (by kernel_rfl) (by decide +kernel) ?_); simp only [List.replicate, XL]) | refine Ya ?_ | (refine Yb rfl ?_ ?_ <;> intro hcnd <;> (try simp at hcnd) <;> try exact dc) | refine Yc ?_ | (refine Yd ?_; simp only [X0, Nat.reduceBEq]) | (refine Ye ?_; refine Yf ?_) | (refine Yh ?_ ?_; (focus (simp [hC]; done)); refine Ys ?_) | ((first | refine Yi rfl ?_ ?_ | refine Yj rfl ?_ ?_); (focus (simp [hC]; done)); refine Yt ?_) | refine Yg ?_ | (simp only [X0, Nat.reduceBEq]) | clear hK K)
        refine hL _ _ _ _ ?_ main
        exact Yr [some 0, some 1, some 2] (by simp [rowsOver, hC])

    by_cases hu0 : c.info.usage = 0
    · obtain rfl : L = true := by rw [← hLL]; simp [hu0]
      repeat' (first | ((first | refine Y0 rfl fun K9 h9 => ?_ | refine Y1 rfl rfl fun K9 h9 => ?_ | refine Y2 rfl rfl fun K9 h9 => ?_ | (refine Y3 ?_ ?_; (focus (simp [hu0]; done)); intro K9 h9) | ((first | refine Y4 rfl ?_ ?_ | refine Y5 rfl ?_ ?_); (focus (simp [hu0]; done)); intro K9 h9)); simp (disch := first | exact dd | fail) [hu0]; (try simp (disch := first | exact de | fail) only [X7]); ((first | refine ⟨_, h3, ?_⟩ | (refine aeffS_loadA (vs := [.int .i64 c.key.h, .str c.key.id, .str c.key.root]) rfl ?_ ?_ ?_ ?_ ?_; (focus (simp; done)); (focus (simp; done)); (focus (simp; done)); (focus (intro i v h; rcases i with _ | _ | _ | i <;> simp at h <;> subst h <;> simp))) | refine aeffS_load rfl (by simp) (by simp; rfl) ?_ | skip) <;> ((repeat (refine Yz ?_)); (first | refine h9 _ _ (Ys ?_) | refine h9 _ _ (Yt ?_)); clear h9 K9))) | refine Y6 ?_ | refine Y7 ?_ | (refine Y8 fun K hK => ?_) | refine Y9 ?_ | (apply hK; clear hK K) | ((first | refine awp_region_drawF (m := 0) [(1, 7, .int .i64 c.key.h), (1, 8, .str c.key.id), (1, 9, .str c.key.root), (1, 13, .int .i64 c.info.usage)] (by simp) (by decide +kernel) [0, 0, 1, 0, 3, 0, 0, 0, 0, 0, 0, 0, 3] (by kernel_rfl) (by decide +kernel) ?_ | refine Yk (m := 0) (by decide +kernel) [0, 0, 1, 0, 3, 0, 0, 0, 0, 0, 0, 0, 3] (by kernel_rfl) (by decide +kernel) ?_ | refine Yk (m := 0) (by decide +kernel) [] (by kernel_rfl) (by decide +kernel) ?_); simp only [List.replicate, XL]) | refine Ya ?_ | (refine Yb rfl ?_ ?_ <;> intro hcnd <;> (try simp at hcnd) <;> try exact dc) | refine Yc ?_ | (refine Yd ?_; simp only [X0, Nat.reduceBEq]) | (refine Ye ?_; refine Yf ?_) | (refine Yh ?_ ?_; (focus (simp [hu0]; done)); refine Ys ?_) | ((first | refine Yi rfl ?_ ?_ | refine Yj rfl ?_ ?_); (focus (simp [hu0]; done)); refine Yt ?_) | refine Yg ?_ | (simp only [X0, Nat.reduceBEq]) | clear hK K)
      refine hL _ _ _ _ ?_ main
      exact Yr [some 0, some 1, some 2] (by simp [rowsOver, hu0])
    · obtain rfl : L = (bits .and .i64 c.info.usage 64 != 0) := by rw [← hLL]; simp [hu0]
      repeat' (first | ((first | refine Y0 rfl fun K9 h9 => ?_ | refine Y1 rfl rfl fun K9 h9 => ?_ | refine Y2 rfl rfl fun K9 h9 => ?_ | (refine Y3 ?_ ?_; (focus (simp [hu0]; done)); intro K9 h9) | ((first | refine Y4 rfl ?_ ?_ | refine Y5 rfl ?_ ?_); (focus (simp [hu0]; done)); intro K9 h9)); simp (disch := first | exact dd | fail) [hu0]; (try simp (disch := first | exact de | fail) only [X7]); ((first | refine ⟨_, h3, ?_⟩ | (refine aeffS_loadA (vs := [.int .i64 c.key.h, .str c.key.id, .str c.key.root]) rfl ?_ ?_ ?_ ?_ ?_; (focus (simp; done)); (focus (simp; done)); (focus (simp; done)); (focus (intro i v h; rcases i with _ | _ | _ | i <;> simp at h <;> subst h <;> simp))) | refine aeffS_load rfl (by simp) (by simp; rfl) ?_ | skip) <;> ((repeat (refine Yz ?_)); (first | refine h9 _ _ (Ys ?_) | refine h9 _ _ (Yt ?_)); clear h9 K9))) | refine Y6 ?_ | refine Y7 ?_ | (refine Y8 fun K hK => ?_) | refine Y9 ?_ | (apply hK; clear hK K) | ((first | refine awp_region_drawF (m := 0) [(1, 7, .int .i64 c.key.h), (1, 8, .str c.key.id), (1, 9, .str c.key.root), (1, 13, .int .i64 c.info.usage)] (by simp) (by decide +kernel) [0, 0, 1, 0, 3, 0, 0, 0, 0, 0, 0, 0, 3] (by kernel_rfl) (by decide +kernel) ?_ | refine Yk (m := 0) (by decide +kernel) [0, 0, 1, 0, 3, 0, 0, 0, 0, 0, 0, 0, 3] (by kernel_rfl) (by decide +kernel) ?_ | refine Yk (m := 0) (by decide +kernel) [] (by kernel_rfl) (by decide +kernel) ?_); simp only [List.replicate, XL]) | refine Ya ?_ | (refine Yb rfl ?_ ?_ <;> intro hcnd <;> (try simp at hcnd) <;> try exact dc) | refine Yc ?_ | (refine Yd ?_; simp only [X0, Nat.reduceBEq]) | (refine Ye ?_; refine Yf ?_) | (refine Yh ?_ ?_; (focus (simp [hu0]; done)); refine Ys ?_) | ((first | refine Yi rfl ?_ ?_ | refine Yj rfl ?_ ?_); (focus (simp [hu0]; done)); refine Yt ?_) | refine Yg ?_ | (simp only [X0, Nat.reduceBEq]) | clear hK K)
      refine hL _ _ _ _ ?_ main
      exact Yr [some 0, some 1, some 2] (by simp [rowsOver])

  cases B
  · have hlt : ¬ s.len < 1 := fun e => hB ⟨rfl, e⟩
    by_cases hu1 : c.info.usage = 0
    · repeat' (first | ((first | refine Yl rfl fun K9 h9 => ?_ | refine Y1 rfl rfl fun K9 h9 => ?_ | refine Y2 rfl rfl fun K9 h9 => ?_ | (refine Ym ?_ ?_; (focus (simp [hlt, hu1]; done)); intro K9 h9) | ((first | refine Y4 rfl ?_ ?_ | refine Y5 rfl ?_ ?_); (focus (simp [hlt, hu1]; done)); intro K9 h9)); simp (disch := first | exact dd | fail) [hlt, hu1]; (try simp (disch := first | exact de | fail) only [X7]); ((first | refine Ap h2 ?_ | skip) <;> ((repeat (refine Yz ?_)); (first | refine h9 _ _ (Yp ?_) | refine h9 _ _ (Yt ?_)); clear h9 K9))) | refine Yo ?_ | refine Y7 ?_ | (refine Y8 fun K hK => ?_) | refine Yq ?_ | (apply hK; clear hK K) | ((first | refine Yk (m := 0) (by decide +kernel) [] (by kernel_rfl) (by decide +kernel) ?_); simp only [List.replicate, XL]) | refine Ya ?_ | (refine Yb rfl ?_ ?_ <;> intro hcnd <;> (try simp at hcnd) <;> try exact dc) | refine Yc ?_ | (refine Yd ?_; simp only [X0, Nat.reduceBEq]) | (refine Ye ?_; refine Yf ?_) | (refine Yn ?_ ?_; (focus (simp [hlt, hu1]; done)); refine Yp ?_) | ((first | refine Yi rfl ?_ ?_ | refine Yj rfl ?_ ?_); (focus (simp [hlt, hu1]; done)); refine Yt ?_) | refine Yg ?_ | (simp only [X0, Nat.reduceBEq]) | clear hK K)
      refine hL _ _ _ _ ?_ main
      exact Yr [some 0, some 1, some 2] (by simp [rowsOver, hu1])
    · have hu2 : ¬ bits .and .i64 c.info.usage 32 = 0 := fun e => hu ⟨hu1, e⟩
      repeat' (first | ((first | refine Yl rfl fun K9 h9 => ?_ | refine Y1 rfl rfl fun K9 h9 => ?_ | refine Y2 rfl rfl fun K9 h9 => ?_ | (refine Ym ?_ ?_; (focus (simp [hlt, hu1, hu2]; done)); intro K9 h9) | ((first | refine Y4 rfl ?_ ?_ | refine Y5 rfl ?_ ?_); (focus (simp [hlt, hu1, hu2]; done)); intro K9 h9)); simp (disch := first | exact dd | fail) [hlt, hu1, hu2]; (try simp (disch := first | exact de | fail) only [X7]); ((first | refine Ap h2 ?_ | skip) <;> ((repeat (refine Yz ?_)); (first | refine h9 _ _ (Yp ?_) | refine h9 _ _ (Yt ?_)); clear h9 K9))) | refine Yo ?_ | refine Y7 ?_ | (refine Y8 fun K hK => ?_) | refine Yq ?_ | (apply hK; clear hK K) | ((first | refine Yk (m := 0) (by decide +kernel) [] (by kernel_rfl) (by decide +kernel) ?_); simp only [List.replicate, XL]) | refine Ya ?_ | (refine Yb rfl ?_ ?_ <;> intro hcnd <;> (try simp at hcnd) <;> try exact dc) | refine Yc ?_ | (refine Yd ?_; simp only [X0, Nat.reduceBEq]) | (refine Ye ?_; refine Yf ?_) | (refine Yn ?_ ?_; (focus (simp [hlt, hu1, hu2]; done)); refine Yp ?_) | ((first | refine Yi rfl ?_ ?_ | refine Yj rfl ?_ ?_); (focus (simp [hlt, hu1, hu2]; done)); refine Yt ?_) | refine Yg ?_ | (simp only [X0, Nat.reduceBEq]) | clear hK K)
      refine hL _ _ _ _ ?_ main
      exact Yr [some 0, some 1, some 2] (by simp [rowsOver])
  · by_cases hu1 : c.info.usage = 0
    · repeat' (first | ((first | refine Yl rfl fun K9 h9 => ?_ | refine Y1 rfl rfl fun K9 h9 => ?_ | refine Y2 rfl rfl fun K9 h9 => ?_ | (refine Ym ?_ ?_; (focus (simp [hu1]; done)); intro K9 h9) | ((first | refine Y4 rfl ?_ ?_ | refine Y5 rfl ?_ ?_); (focus (simp [hu1]; done)); intro K9 h9)); simp (disch := first | exact dd | fail) [hu1]; (try simp (disch := first | exact de | fail) only [X7]); ((first | refine Ap h2 ?_ | skip) <;> ((repeat (refine Yz ?_)); (first | refine h9 _ _ (Yp ?_) | refine h9 _ _ (Yt ?_)); clear h9 K9))) | refine Yo ?_ | refine Y7 ?_ | (refine Y8 fun K hK => ?_) | refine Yq ?_ | (apply hK; clear hK K) | ((first | refine Yk (m := 0) (by decide +kernel) [] (by kernel_rfl) (by decide +kernel) ?_); simp only [List.replicate, XL]) | refine Ya ?_ | (refine Yb rfl ?_ ?_ <;> intro hcnd <;> (try simp at hcnd) <;> try exact dc) | refine Yc ?_ | (refine Yd ?_; simp only [X0, Nat.reduceBEq]) | (refine Ye ?_; refine Yf ?_) | (refine Yn ?_ ?_; (focus (simp [hu1]; done)); refine Yp ?_) | ((first | refine Yi rfl ?_ ?_ | refine Yj rfl ?_ ?_); (focus (simp [hu1]; done)); refine Yt ?_) | refine Yg ?_ | (simp only [X0, Nat.reduceBEq]) | clear hK K)
      refine hL _ _ _ _ ?_ main
      exact Yr [some 0, some 1, some 2] (by simp [rowsOver, hu1])
    · have hu2 : ¬ bits .and .i64 c.info.usage 32 = 0 := fun e => hu ⟨hu1, e⟩
      repeat' (first | ((first | refine Yl rfl fun K9 h9 => ?_ | refine Y1 rfl rfl fun K9 h9 => ?_ | refine Y2 rfl rfl fun K9 h9 => ?_ | (refine Ym ?_ ?_; (focus (simp [hu1, hu2]; done)); intro K9 h9) | ((first | refine Y4 rfl ?_ ?_ | refine Y5 rfl ?_ ?_); (focus (simp [hu1, hu2]; done)); intro K9 h9)); simp (disch := first | exact dd | fail) [hu1, hu2]; (try simp (disch := first | exact de | fail) only [X7]); ((first | refine Ap h2 ?_ | skip) <;> ((repeat (refine Yz ?_)); (first | refine h9 _ _ (Yp ?_) | refine h9 _ _ (Yt ?_)); clear h9 K9))) | refine Yo ?_ | refine Y7 ?_ | (refine Y8 fun K hK => ?_) | refine Yq ?_ | (apply hK; clear hK K) | ((first | refine Yk (m := 0) (by decide +kernel) [] (by kernel_rfl) (by decide +kernel) ?_); simp only [List.replicate, XL]) | refine Ya ?_ | (refine Yb rfl ?_ ?_ <;> intro hcnd <;> (try simp at hcnd) <;> try exact dc) | refine Yc ?_ | (refine Yd ?_; simp only [X0, Nat.reduceBEq]) | (refine Ye ?_; refine Yf ?_) | (refine Yn ?_ ?_; (focus (simp [hu1, hu2]; done)); refine Yp ?_) | ((first | refine Yi rfl ?_ ?_ | refine Yj rfl ?_ ?_); (focus (simp [hu1, hu2]; done)); refine Yt ?_) | refine Yg ?_ | (simp only [X0, Nat.reduceBEq]) | clear hK K)
      refine hL _ _ _ _ ?_ main
      exact Yr [some 0, some 1, some 2] (by simp [rowsOver])

  · simp

theorem leave_call (s : Pg) (c : Ce) (w : WLv s c) : PCall Tryz.prog 41 [.agg s.c, .agg c.c] (.tup [.agg (leaveS s c).c, .int .i64 (leaveK s c)]) := by
  by_cases h : leaveK s c = 0
  · have := leave_main s c w h
    rw [h, show leaveS s c = leaveP s c by simp [leaveS, h]]
    exact this
  · have := leave_early s c w h
    rw [show leaveS s c = zeroPg by simp [leaveS, h]]
    exact this
end Go.Proofs.YtcfmanhblonjeaaGreatDoor
namespace Go.Proofs.YtcfmanhblonjeaaGreatDoor
open Go.VS Go.Stp
set_option linter.all false
set_option maxRecDepth 100000
set_option maxHeartbeats 8000000
attribute [local irreducible] arun arunD arunU AWp aend bits
def q0 : Qu := ⟨0, [], 0, [], false, false, false, [], 0, false, []⟩
def cA : Ce := ⟨[], [], 0, authN 0, authN 1, 0, 0, ⟨0, [], []⟩, { noneI with ca := true }, []⟩
def cB : Ce := { cA with subject := authN 8 }
def sA : Pg := beginS (anc 0) q0
def sB : Pg := { sA with len := 0 }
theorem authN_wn (k : Nat) : WN (authN k) := by
  unfold WN authN authV
  by_cases h : k % 2 = 1 <;> by_cases h8 : 8 ≤ k % 16 <;> simp [h, h8]
theorem leaveK_AA : leaveK sA cA = 0 := by decide +kernel
theorem leaveK_BA : leaveK sB cA = 10 := by decide +kernel
theorem leaveK_BB : leaveK sB cB = 0 := by decide +kernel
theorem wl_of (s : Pg) (c : Ce) (h1 : s = sA ∨ s = sB) (h2 : c = cA ∨ c = cB) : WLv s c := by
  rcases h1 with rfl | rfl <;> rcases h2 with rfl | rfl <;>
    exact ⟨authN_wn _, authN_wn _, by decide, ⟨by decide, fun x h => by cases h⟩, by decide, ⟨⟨by decide, fun x h => by cases h⟩, ⟨by decide, fun x h => by cases h⟩⟩, by unfold I64; decide, by unfold I64; decide, by unfold I64; decide, by unfold I64; decide⟩

theorem awake_call : PCall Tryz.prog 17 [] (.bool true) := by
  have a0 : PCall Tryz.prog 20 [.int .i64 0] (.agg [nmV (authN 0)]) := auth_call 0 (by omega)
  have a1 : PCall Tryz.prog 20 [.int .i64 1] (.agg [nmV (authN 1)]) := auth_call 1 (by omega)
  have a8 : PCall Tryz.prog 20 [.int .i64 8] (.agg [nmV (authN 8)]) := auth_call 8 (by omega)
  have an : PCall Tryz.prog 18 [.int .i64 0] (.agg [nmV (authN (namedN 0)), .int .i64 (pubK 0).h, .str (pubK 0).id, .str (pubK 0).root]) := anchor_call 0 (by omega)
  have hb : PCall Tryz.prog 40 [.agg [nmV (authN (namedN 0)), .int .i64 (pubK 0).h, .str (pubK 0).id, .str (pubK 0).root], .agg [.int .i64 0, .str [], .int .i64 0, .nils, .bool false, .bool false, .bool false, .nils, .int .i64 0, .bool false, .nils]] (.agg [nmV (authN (namedN 0)), .int .i64 (pubK 0).h, .str (pubK 0).id, .str (pubK 0).root, .bool true, .int .i64 8, .int .i64 9, .int .i64 9, .int .i64 9, .sl 0 []]) := pcall_nza (begin_call (anc 0) q0 (authN_wn _)) rfl
  have h1 : PCall Tryz.prog 41 [.agg [nmV (authN (namedN 0)), .int .i64 (pubK 0).h, .str (pubK 0).id, .str (pubK 0).root, .bool true, .int .i64 8, .int .i64 9, .int .i64 9, .int .i64 9, .sl 0 []], .agg [.str [], .str [], .int .i64 0, nmV (authN 0), nmV (authN 1), .int .i64 0, .int .i64 0, .int .i64 0, .str [], .str [], .bool false, .bool true, .int .i64 (-1), .int .i64 0, .nils, .nils, .nils, .int .i64 (-1), .int .i64 (-1), .int .i64 (-1), .nils, .bool false, .nils, .nils, .str [], .str [], .nils, .nils, .nils, .str []]] (.tup [.agg (leaveS sA cA).c, .int .i64 (leaveK sA cA)]) := pcall_nza (leave_call sA cA (wl_of _ _ (.inl rfl) (.inl rfl))) rfl
  have h2 : PCall Tryz.prog 41 [.agg [nmV (authN (namedN 0)), .int .i64 (pubK 0).h, .str (pubK 0).id, .str (pubK 0).root, .bool true, .int .i64 0, .int .i64 9, .int .i64 9, .int .i64 9, .sl 0 []], .agg [.str [], .str [], .int .i64 0, nmV (authN 0), nmV (authN 1), .int .i64 0, .int .i64 0, .int .i64 0, .str [], .str [], .bool false, .bool true, .int .i64 (-1), .int .i64 0, .nils, .nils, .nils, .int .i64 (-1), .int .i64 (-1), .int .i64 (-1), .nils, .bool false, .nils, .nils, .str [], .str [], .nils, .nils, .nils, .str []]] (.tup [.agg (leaveS sB cA).c, .int .i64 (leaveK sB cA)]) := pcall_nza (leave_call sB cA (wl_of _ _ (.inr rfl) (.inl rfl))) rfl
  have h3 : PCall Tryz.prog 41 [.agg [nmV (authN (namedN 0)), .int .i64 (pubK 0).h, .str (pubK 0).id, .str (pubK 0).root, .bool true, .int .i64 0, .int .i64 9, .int .i64 9, .int .i64 9, .sl 0 []], .agg [.str [], .str [], .int .i64 0, nmV (authN 0), nmV (authN 8), .int .i64 0, .int .i64 0, .int .i64 0, .str [], .str [], .bool false, .bool true, .int .i64 (-1), .int .i64 0, .nils, .nils, .nils, .int .i64 (-1), .int .i64 (-1), .int .i64 (-1), .nils, .bool false, .nils, .nils, .str [], .str [], .nils, .nils, .nils, .str []]] (.tup [.agg (leaveS sB cB).c, .int .i64 (leaveK sB cB)]) := pcall_nza (leave_call sB cB (wl_of _ _ (.inr rfl) (.inr rfl))) rfl
  have hs : PCall Tryz.prog 42 [.agg [nmV (authN (namedN 0)), .int .i64 (pubK 0).h, .str (pubK 0).id, .str (pubK 0).root, .bool true, .int .i64 0, .int .i64 9, .int .i64 9, .int .i64 9, .sl 0 []], .agg [.str [], .str [], .int .i64 0, nmV (authN 0), nmV (authN 8), .int .i64 0, .int .i64 0, .int .i64 0, .str [], .str [], .bool false, .bool true, .int .i64 (-1), .int .i64 0, .nils, .nils, .nils, .int .i64 (-1), .int .i64 (-1), .int .i64 (-1), .nils, .bool false, .nils, .nils, .str [], .str [], .nils, .nils, .nils, .str []], .bool true] (.bool (specialS sB cB true)) := pcall_nza (special_call sB cB true (authN_wn _) (authN_wn _)) rfl
  have hg : PCall Tryz.prog 43 [.agg [nmV (authN (namedN 0)), .int .i64 (pubK 0).h, .str (pubK 0).id, .str (pubK 0).root, .bool true, .int .i64 0, .int .i64 9, .int .i64 9, .int .i64 9, .sl 0 []], .agg [.int .i64 0, .str [], .int .i64 0, .nils, .bool false, .bool false, .bool false, .nils, .int .i64 0, .bool false, .nils]] (.sl 1 [nmV (authN (namedN 0)), .int .i64 (pubK 0).h, .str (pubK 0).id, .str (pubK 0).root]) := pcall_nza (signers_call sB q0 (authN_wn _) ⟨by decide, fun x h => by cases h⟩) rfl
  rw [leaveK_AA] at h1
  rw [leaveK_BA] at h2
  rw [leaveK_BB] at h3
  rw [show specialS sB cB true = true by decide +kernel] at hs
  generalize leaveS sA cA = P1 at *
  generalize leaveS sB cA = P2 at *
  generalize leaveS sB cB = P3 at *
  rw [Pg.c.eq_1] at h1 h2 h3
  generalize authN (namedN 0) = An at *
  generalize authN 0 = A0 at *
  generalize authN 1 = A1 at *
  generalize authN 8 = A8 at *
  generalize pubK 0 = KY at *
  refine pcall_body Tryz.func17 rfl Tryz.call17 ?_ ?_
  rotate_left 1
  refine awp_slots (s' := zJ 63) rfl ?_; dsimp only [zJ]
  repeat' (first | ((first | refine Y0 rfl fun K9 h9 => ?_ | (refine Y3 ?_ ?_; (focus (simp; done)); intro K9 h9)); simp (disch := first | exact dd | fail); (try simp (disch := first | exact de | fail) only [X7]); ((first | refine Ap a0 ?_ | refine Ap a1 ?_ | refine Ap a8 ?_ | refine Ap an ?_ | refine Ap hb ?_ | refine Ap h1 ?_ | refine Ap h2 ?_ | refine Ap h3 ?_ | refine Ap hs ?_ | refine Ap hg ?_ | skip) <;> ((repeat (refine Yz ?_)); (first | refine h9 _ _ (Ys ?_)); clear h9 K9))) | refine Y6 ?_ | (refine Y8 fun K hK => ?_) | refine Y9 ?_ | (apply hK; clear hK K) | (refine Ye ?_; refine Yf ?_) | (refine Yh ?_ ?_; (focus (simp; done)); refine Ys ?_) | refine Yg ?_ | (simp only [X0, Nat.reduceBEq]) | clear hK K)
  · simp
    exact .pure .bool
  · exact .bool
end Go.Proofs.YtcfmanhblonjeaaGreatDoor
