/-
  STEP: StepSelfIssued.
  Conditions: none.
-/
import Derived.Test.YtjlifjmjnhdcmaaQ20
import Derived.Test.YtjlifjmjnhdcmaaQ15
namespace Go.Proofs.Ytjlifjmjnhdcmaa
open Go.VS Go.Stp
set_option linter.all false
set_option maxRecDepth 100000
set_option maxHeartbeats 8000000
theorem wlv_pg {s : Pg} (w : WPg s) (c : Ce) (h1 : WN c.subject) (h2 : WN c.issuer) (h3 : c.info.maps.length ≤ 65536) (h4 : WS c.info.cons) : WLv s c := by
  have a1 := w.len
  have a2 := w.expl
  have a3 := w.map
  have a4 := w.any
  have a5 := w.few
  exact ⟨h1, h2, h3, w.names, by omega, h4, by unfold I64; omega, by unfold I64; omega, by unfold I64; omega, by unfold I64; omega⟩
def cS (b : Bool) : Ce := if b then { ce0 0 0 true with subject := authN 8 } else ce0 0 0 true
theorem cS_self (b : Bool) : selfB (cS b) = true := by cases b <;> decide +kernel
theorem c01_self : selfB (ce0 0 1 true) = false := by decide +kernel
theorem ws0 : WS ⟨[], []⟩ := ⟨⟨by simp, fun x h => by simp at h⟩, ⟨by simp, fun x h => by simp at h⟩⟩
theorem cS_leave {s : Pg} (w : WPg s) (b : Bool) : leaveK s (cS b) = 0 ∧ (leaveS s (cS b)).len = s.len ∧ (leaveS s (cS b)).expl = s.expl ∧ (leaveS s (cS b)).map = s.map ∧ (leaveS s (cS b)).any = s.any ∧ WLv s (cS b) := by
  have h0 : leaveK s (cS b) = 0 := by
    unfold leaveK
    rw [cS_self]
    cases b <;> simp [cS, ce0, noneI]
  have e : leaveS s (cS b) = leaveP s (cS b) := by simp [leaveS, h0]
  rw [e]
  unfold leaveP
  rw [cS_self]
  refine ⟨h0, ?_, ?_, ?_, ?_, ?_⟩
  · cases b <;> exact leastS_none _
  · cases b <;> exact leastS_none _
  · cases b <;> exact leastS_none _
  · cases b <;> exact leastS_none _
  · cases b
    · exact wlv_pg w _ (authN_wn _) (authN_wn _) (by simp [cS, ce0, noneI]) ws0
    · exact wlv_pg w _ (authN_wn _) (authN_wn _) (by simp [cS, ce0, noneI]) ws0
theorem c01_leave {s : Pg} (w : WPg s) : leaveK s (ce0 0 1 true) = (if s.len = 0 then 10 else 0) ∧ WLv s (ce0 0 1 true) := by
  have h1 := w.len
  refine ⟨?_, wlv_pg w _ (authN_wn _) (authN_wn _) (by simp [ce0, noneI]) ws0⟩
  unfold leaveK
  rw [c01_self]
  by_cases h : s.len = 0
  · simp [ce0, noneI, h]
  · have : ¬ s.len < 1 := by omega
    simp [ce0, noneI, h, this]
attribute [local irreducible] arun arunD arunU AWp aend bits
theorem selfIssued_call (l : List Int) (b : Bool) (hl : l.length ≤ 140737488355328) (hr : ∀ k ∈ l, -9223372036854775808 ≤ k ∧ k ≤ 9223372036854775807) :
    PCall Try.prog 5 [.sl l.length (l.map (V.int .i64)), .bool b] (.bool true) := by
  have aw := awake_call
  have au : PCall Try.prog 25 [.int .i64 8] (.agg [nmV (authN 8)]) := auth_call 8 (by omega)
  obtain ⟨s, a', w, -, hp⟩ := progress_call l 0 hl (by omega) hr
  have cf : MCall Try.prog 19 [.ref 0 0, .int .i64 0, .int .i64 0, .bool true] (dk [] 0) (dk [] 0) (.agg (ce0 0 0 true).c) := certf0_call 0 0 true (by omega) (by omega)
  have co : MCall Try.prog 19 [.ref 0 0, .int .i64 0, .int .i64 1, .bool true] (dk [] 0) (dk [] 0) (.agg (ce0 0 1 true).c) := certf0_call 0 1 true (by omega) (by omega)
  obtain ⟨k0, e1, e2, e3, e4, wl⟩ := cS_leave w b
  obtain ⟨k1, wo⟩ := c01_leave w
  have lv := leave_call s (cS b) wl
  have lo := leave_call s (ce0 0 1 true) wo
  have hc : (cS b).c = [.str (ce0 0 0 true).raw, .str (ce0 0 0 true).tbs, .int .i64 (ce0 0 0 true).serial, nmV (ce0 0 0 true).issuer, (if b then nmV (authN 8) else nmV (ce0 0 0 true).subject)] ++ (ce0 0 0 true).c.drop 5 := by cases b <;> rfl
  rw [hc] at lv
  rw [k0] at lv
  rw [k1] at lo
  generalize leaveS s (cS b) = P at *
  generalize leaveS s (ce0 0 1 true) = P2 at *
  generalize ce0 0 1 true = o at *
  generalize ce0 0 0 true = c at *
  generalize authN 8 = A8 at *
  have wl2 := w.len
  rw [Ce.c.eq_1, Pg.c.eq_1, Pg.c.eq_1] at lo lv
  rw [Ce.c.eq_1] at cf co
  rw [Pg.c.eq_1] at hp
  simp only [List.cons_append, List.nil_append, List.drop_succ_cons, List.drop_zero] at lv
  have hm : ∀ z : Int, ((if z = 0 then 10 else 0 : Int) == 10) = (z == 0) := fun z => by
    by_cases h : z = 0 <;> simp [h]
  rw [e1, e2, e3, e4] at lv
  cases b
  · simp only [Bool.false_eq_true, if_false] at lv
    refine pcall_body Try.func5 rfl Try.call5 ?_ ?_
    rotate_left 1
    refine awp_slots (s' := ((.sl l.length (l.map (V.int .i64)) : V) :: (.bool false : V) :: V.junk :: V.junk :: V.junk :: V.junk :: V.junk :: V.junk :: V.junk :: V.junk :: V.junk :: V.junk :: V.junk :: V.junk :: V.junk :: V.junk :: V.junk :: V.junk :: V.junk :: V.junk :: V.junk :: V.junk :: V.junk :: V.junk :: V.junk :: V.junk :: V.junk :: V.junk :: V.junk :: V.junk :: V.junk :: V.junk :: V.junk :: V.junk :: V.junk :: V.junk :: V.junk :: V.junk :: V.junk :: V.junk :: V.junk :: V.junk :: V.junk :: V.junk :: V.junk :: V.junk :: V.junk :: V.junk :: V.junk :: V.junk :: V.junk :: V.junk :: V.junk :: V.junk :: V.junk :: V.junk :: V.junk :: V.junk :: V.junk :: V.junk :: V.junk :: V.junk :: V.junk :: V.junk :: V.junk :: V.junk :: V.junk :: V.junk :: V.junk :: V.junk :: V.junk :: V.junk :: V.junk :: V.junk :: V.junk :: V.junk :: V.junk :: [])) rfl ?_
    repeat' (first
      | ((first | refine arun_go0 rfl fun K9 h9 => ?_ | (refine arun_go ?_ ?_; (focus (simp [hm]; done)); intro K9 h9)); simp (disch := (first | (simp; done) | omega | (simp; omega))) [hm]; (try simp (disch := (first | omega | (simp; omega))) only [wrap_i64, wrap_u8, wrap_u32, wrap_u64, Int.tmod_eq_emod_of_nonneg, Int.tdiv_eq_ediv_of_nonneg]); (first | refine acall_new (deck_call l) (dk_pures _ _) (by simp) ?_ | refine acall_mutd hp rfl (dk_pures _ _) (dk_pures _ _) (by simp) (by simp) ?_ | refine acall_new deck_nil (dk_pures _ _) (by simp) ?_ | refine acall_mutd cf rfl (dk_pures _ _) (dk_pures _ _) (by simp) (by simp) ?_ | refine acall_mutd co rfl (dk_pures _ _) (dk_pures _ _) (by simp) (by simp) ?_ | refine acall_pure (au) (by simp) ?_ | refine acall_pure (lv) (by simp) ?_ | refine acall_pure (lo) (by simp) ?_ | refine acall_pure (aw) (by simp) ?_ | skip); (repeat (refine And.intro (by first | omega | (simp; first | done | omega) | assumption | (intro e9; have e8 := congrArg List.length e9; first | (simp at e8; done) | ((try simp only [List.length_map, List.length_append] at e8); rw [List.length_nil] at e8; omega))) ?_)); (first | refine h9 _ _ (arun_slots (by first | (dsimp only [sput, sset]; done) | rfl) ?_)); clear h9 K9)
      | (refine arun_end ?_)
      | (refine awp_seq fun K hK => ?_)
      | (refine awp_region ?_)
      | (refine hK _ _ ?_; clear hK K)
      | (refine awp_cond rfl (fun hcnd => ?_) (fun hcnd => ?_) <;> (try simp at hcnd) <;> (try contradiction) <;> (try (exfalso; omega)))
      | (refine awp_skip ?_)
      | (refine awp_ret ?_; refine ret_go ?_)
      | (refine arun_no ?_ ?_; (focus (simp [hm]; done)); refine arun_slots (by first | (dsimp only [sput, sset]; done) | rfl) ?_)
      | (refine fall_go ?_)
      | (simp only [athen_normal, athen_exit, athen_ret, ablock_self, ablock_ne, ablock_normal, ablock_ret, Nat.reduceBEq])
      | (clear hK K; refine hK _ _ ?_; clear hK K)
      | (clear hK K; clear hK K; refine hK _ _ ?_; clear hK K)
      | (clear hK K; clear hK K; clear hK K; refine hK _ _ ?_; clear hK K)
      | (clear hK K; clear hK K; clear hK K; clear hK K; refine hK _ _ ?_; clear hK K)
      | (clear hK K; clear hK K; clear hK K; clear hK K; clear hK K; refine hK _ _ ?_; clear hK K))
    · simp
      exact .pure .bool
    · exact .bool
  · simp only [if_true] at lv
    refine pcall_body Try.func5 rfl Try.call5 ?_ ?_
    rotate_left 1
    refine awp_slots (s' := ((.sl l.length (l.map (V.int .i64)) : V) :: (.bool true : V) :: V.junk :: V.junk :: V.junk :: V.junk :: V.junk :: V.junk :: V.junk :: V.junk :: V.junk :: V.junk :: V.junk :: V.junk :: V.junk :: V.junk :: V.junk :: V.junk :: V.junk :: V.junk :: V.junk :: V.junk :: V.junk :: V.junk :: V.junk :: V.junk :: V.junk :: V.junk :: V.junk :: V.junk :: V.junk :: V.junk :: V.junk :: V.junk :: V.junk :: V.junk :: V.junk :: V.junk :: V.junk :: V.junk :: V.junk :: V.junk :: V.junk :: V.junk :: V.junk :: V.junk :: V.junk :: V.junk :: V.junk :: V.junk :: V.junk :: V.junk :: V.junk :: V.junk :: V.junk :: V.junk :: V.junk :: V.junk :: V.junk :: V.junk :: V.junk :: V.junk :: V.junk :: V.junk :: V.junk :: V.junk :: V.junk :: V.junk :: V.junk :: V.junk :: V.junk :: V.junk :: V.junk :: V.junk :: V.junk :: V.junk :: V.junk :: [])) rfl ?_
    repeat' (first
      | ((first | refine arun_go0 rfl fun K9 h9 => ?_ | (refine arun_go ?_ ?_; (focus (simp [hm]; done)); intro K9 h9)); simp (disch := (first | (simp; done) | omega | (simp; omega))) [hm]; (try simp (disch := (first | omega | (simp; omega))) only [wrap_i64, wrap_u8, wrap_u32, wrap_u64, Int.tmod_eq_emod_of_nonneg, Int.tdiv_eq_ediv_of_nonneg]); (first | refine acall_new (deck_call l) (dk_pures _ _) (by simp) ?_ | refine acall_mutd hp rfl (dk_pures _ _) (dk_pures _ _) (by simp) (by simp) ?_ | refine acall_new deck_nil (dk_pures _ _) (by simp) ?_ | refine acall_mutd cf rfl (dk_pures _ _) (dk_pures _ _) (by simp) (by simp) ?_ | refine acall_mutd co rfl (dk_pures _ _) (dk_pures _ _) (by simp) (by simp) ?_ | refine acall_pure (au) (by simp) ?_ | refine acall_pure (lv) (by simp) ?_ | refine acall_pure (lo) (by simp) ?_ | refine acall_pure (aw) (by simp) ?_ | skip); (repeat (refine And.intro (by first | omega | (simp; first | done | omega) | assumption | (intro e9; have e8 := congrArg List.length e9; first | (simp at e8; done) | ((try simp only [List.length_map, List.length_append] at e8); rw [List.length_nil] at e8; omega))) ?_)); (first | refine h9 _ _ (arun_slots (by first | (dsimp only [sput, sset]; done) | rfl) ?_)); clear h9 K9)
      | (refine arun_end ?_)
      | (refine awp_seq fun K hK => ?_)
      | (refine awp_region ?_)
      | (refine hK _ _ ?_; clear hK K)
      | (refine awp_cond rfl (fun hcnd => ?_) (fun hcnd => ?_) <;> (try simp at hcnd) <;> (try contradiction) <;> (try (exfalso; omega)))
      | (refine awp_skip ?_)
      | (refine awp_ret ?_; refine ret_go ?_)
      | (refine arun_no ?_ ?_; (focus (simp [hm]; done)); refine arun_slots (by first | (dsimp only [sput, sset]; done) | rfl) ?_)
      | (refine fall_go ?_)
      | (simp only [athen_normal, athen_exit, athen_ret, ablock_self, ablock_ne, ablock_normal, ablock_ret, Nat.reduceBEq])
      | (clear hK K; refine hK _ _ ?_; clear hK K)
      | (clear hK K; clear hK K; refine hK _ _ ?_; clear hK K)
      | (clear hK K; clear hK K; clear hK K; refine hK _ _ ?_; clear hK K)
      | (clear hK K; clear hK K; clear hK K; clear hK K; refine hK _ _ ?_; clear hK K)
      | (clear hK K; clear hK K; clear hK K; clear hK K; clear hK K; refine hK _ _ ?_; clear hK K))
    · simp
      exact .pure .bool
    · exact .bool
theorem stepSelfIssued_fits : ∀ xs, FitsAll Try.prog 8 Try.f5.params.toList xs → PCall Try.prog 5 xs (.bool true) := by
  intro xs h
  rw [show Try.f5.params.toList = [22, 4] by kernel_rfl] at h
  obtain ⟨x1, xs, rfl, h1, h⟩ := fitsAll_cons h
  obtain ⟨x2, xs, rfl, h2, h⟩ := fitsAll_cons h
  obtain rfl := fitsAll_nil h
  obtain ⟨l, hl, hr, rfl⟩ := fits_ints (e := 3) (by kernel_rfl) (by kernel_rfl) h1
  obtain ⟨b, rfl⟩ := fits_bool (by kernel_rfl) h2
  exact selfIssued_call l b hl hr
end Go.Proofs.Ytjlifjmjnhdcmaa
