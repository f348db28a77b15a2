/-
  HOST: mail addresses.
  HOST: mail addresses by the definition.
  HOST: Mail, MailBase, MailMatch by the definition.
  Conditions: none.
-/
import Derived.Test.YtcfmanhblonjeaaGreatDoorGp
import Derived.Test.YtcfmanhblonjeaaGreatDoorShelf
import Derived.Test.YtcfmanhblonjeaaGreatDoorTab
import Derived.Test.YtcfmanhblonjeaaGreatDoorGd
import Derived.Test.YtcfmanhblonjeaaGreatDoorGi
import Derived.Test.YtcfmanhblonjeaaGreatDoorVs30
set_option linter.all false
namespace Go.Proofs.YtcfmanhblonjeaaGreatDoor.Ho
open Go.VS Go.Hst
set_option linter.all false
set_option maxRecDepth 100000
attribute [local irreducible] arun arunD arunU AWp aend
def setL : List UInt8 := [33, 35, 36, 37, 38, 39, 42, 43, 45, 47, 61, 63, 94, 95, 96, 123, 124, 125, 126, 46]
def okM (c : UInt8) : Bool := okB c || decide (c ∈ setL)
def ddB (w : List UInt8) : Bool := Lib.contains w [46, 46]
def locB (l : List UInt8) : Bool := decide (1 ≤ l.length) && (decide (l.length ≤ 64) && (!(l.getD 0 0 == 46) && (!(l.getD (l.length - 1) 0 == 46) && (!ddB l && l.all okM))))
theorem u46 {a : UInt8} : ((a.toNat : Int) = 46) ↔ a = 46 := u8i a 46 46 rfl

set_option maxHeartbeats 4000000 in
theorem local_call (l : List UInt8) (hl : l.length ≤ 1000000) : PCall Tryz.prog 104 [.str l] (.bool (locB l)) := by
  refine pcall_body Tryz.func104 rfl Tryz.call104 ?_ ?_
  rotate_left 1
  refine awp_slots (s' := (.str l : V) :: zJ 49) rfl ?_; dsimp only [zJ]
  by_cases h1 : l = []
  · subst h1
    repeat' (first | ((first | refine Yl rfl fun K9 h9 => ?_ | (refine Ym ?_ ?_; (focus (simp; done)); intro K9 h9)); simp (disch := first | exact dd | fail); (try simp (disch := first | exact de | fail) only [X7]); ((repeat (refine Yz ?_)); (first | refine h9 _ _ (Yp ?_)); clear h9 K9)) | refine Yo ?_ | (refine Y8 fun K hK => ?_) | refine Yq ?_ | (apply hK; clear hK K) | refine Ya ?_ | (refine Yb rfl ?_ ?_ <;> intro hcnd <;> (try simp at hcnd) <;> try exact dc) | refine Yc ?_ | (refine Yd ?_; simp only [X0, Nat.reduceBEq]) | (refine Ye ?_; refine Yf ?_) | (refine Yn ?_ ?_; (focus (simp; done)); refine Yp ?_) | refine Yg ?_ | (simp only [X0, Nat.reduceBEq]) | clear hK K)
    exact .pure .bool
  have hpos : 0 < l.length := List.length_pos_iff.2 h1
  replace h1 : ¬ (l.length : Int) < 1 := by omega
  by_cases h2 : (64 : Int) < l.length
  · repeat' (first | ((first | refine Yl rfl fun K9 h9 => ?_ | (refine Ym ?_ ?_; (focus (simp [h1, h2]; done)); intro K9 h9)); simp (disch := first | exact dd | fail) [h1, h2]; (try simp (disch := first | exact de | fail) only [X7]); ((repeat (refine Yz ?_)); (first | refine h9 _ _ (Yp ?_)); clear h9 K9)) | refine Yo ?_ | (refine Y8 fun K hK => ?_) | refine Yq ?_ | (apply hK; clear hK K) | refine Ya ?_ | (refine Yb rfl ?_ ?_ <;> intro hcnd <;> (try simp at hcnd) <;> try exact dc) | refine Yc ?_ | (refine Yd ?_; simp only [X0, Nat.reduceBEq]) | (refine Ye ?_; refine Yf ?_) | (refine Yn ?_ ?_; (focus (simp [h1, h2]; done)); refine Yp ?_) | refine Yg ?_ | (simp only [X0, Nat.reduceBEq]) | clear hK K)
    have : locB l = false := by
      have : decide (l.length ≤ 64) = false := by simp; omega
      simp [locB, this]
    rw [this]
    exact .pure .bool
  have e1 : ((l.length : Int) - 1).toNat = l.length - 1 := by omega
  have g0 : l.getD 0 0 = l[0]'(by omega) := by simp [show 0 < l.length by omega]
  have g1 : l.getD (l.length - 1) 0 = l[l.length - 1]'(by omega) := by simp [show l.length - 1 < l.length by omega]
  by_cases h3 : ((l[0]'(by omega)).toNat : Int) = 46
  · repeat' (first | ((first | refine Yl rfl fun K9 h9 => ?_ | (refine Ym ?_ ?_; (focus (simp [h1, h2, h3]; done)); intro K9 h9)); simp (disch := first | exact dd | fail) [h1, h2, h3]; (try simp (disch := first | exact de | fail) only [X7]); ((repeat (refine Yz ?_)); (first | refine h9 _ _ (Yp ?_)); clear h9 K9)) | refine Yo ?_ | (refine Y8 fun K hK => ?_) | refine Yq ?_ | (apply hK; clear hK K) | refine Ya ?_ | (refine Yb rfl ?_ ?_ <;> intro hcnd <;> (try simp at hcnd) <;> try exact dc) | refine Yc ?_ | (refine Yd ?_; simp only [X0, Nat.reduceBEq]) | (refine Ye ?_; refine Yf ?_) | (refine Yn ?_ ?_; (focus (simp [h1, h2, h3]; done)); refine Yp ?_) | refine Yg ?_ | (simp only [X0, Nat.reduceBEq]) | clear hK K)
    have : locB l = false := by
      have : l[0]'(by omega) = 46 := u46.1 h3
      rw [locB, g0, this]; simp
    rw [this]
    exact .pure .bool
  by_cases h4 : ((l[l.length - 1]'(by omega)).toNat : Int) = 46
  · repeat' (first | ((first | refine Yl rfl fun K9 h9 => ?_ | (refine Ym ?_ ?_; (focus (simp [h1, h2, h3, h4, e1]; done)); intro K9 h9)); simp (disch := first | exact dd | fail) [h1, h2, h3, h4, e1]; (try simp (disch := first | exact de | fail) only [X7]); ((repeat (refine Yz ?_)); (first | refine h9 _ _ (Yp ?_)); clear h9 K9)) | refine Yo ?_ | (refine Y8 fun K hK => ?_) | refine Yq ?_ | (apply hK; clear hK K) | refine Ya ?_ | (refine Yb rfl ?_ ?_ <;> intro hcnd <;> (try simp at hcnd) <;> try exact dc) | refine Yc ?_ | (refine Yd ?_; simp only [X0, Nat.reduceBEq]) | (refine Ye ?_; refine Yf ?_) | (refine Yn ?_ ?_; (focus (simp [h1, h2, h3, h4, e1]; done)); refine Yp ?_) | refine Yg ?_ | (simp only [X0, Nat.reduceBEq]) | clear hK K)
    have : locB l = false := by
      have : l[l.length - 1]'(by omega) = 46 := u46.1 h4
      rw [locB, g0, g1, this]; simp
    rw [this]
    exact .pure .bool
  have hk := contains_call l [46, 46] (by omega)
  have hB : locB l = (!ddB l && l.all okM) := by
    have q1 : decide (1 ≤ l.length) = true := by simp; omega
    have q2 : decide (l.length ≤ 64) = true := by simp; omega
    have q3 : l[0]'(by omega) ≠ 46 := fun e => h3 (u46.2 e)
    have q4 : l[l.length - 1]'(by omega) ≠ 46 := fun e => h4 (u46.2 e)
    rw [locB, g0, g1, beq_false_of_ne q3, beq_false_of_ne q4, q1, q2]; rfl
  rw [hB]
  unfold ddB
  cases h5 : Lib.contains l [46, 46] <;> rw [h5] at hk
  case true =>
    repeat' (first | ((first | refine Yl rfl fun K9 h9 => ?_ | (refine Ym ?_ ?_; (focus (simp [h1, h2, h3, h4, e1]; done)); intro K9 h9)); simp (disch := first | exact dd | fail) [h1, h2, h3, h4, e1]; (try simp (disch := first | exact de | fail) only [X7]); ((first | refine Ap hk ?_ | skip) <;> ((repeat (refine Yz ?_)); (first | refine h9 _ _ (Yp ?_)); clear h9 K9))) | refine Yo ?_ | (refine Y8 fun K hK => ?_) | refine Yq ?_ | (apply hK; clear hK K) | refine Ya ?_ | (refine Yb rfl ?_ ?_ <;> intro hcnd <;> (try simp at hcnd) <;> try exact dc) | refine Yc ?_ | (refine Yd ?_; simp only [X0, Nat.reduceBEq]) | (refine Ye ?_; refine Yf ?_) | (refine Yn ?_ ?_; (focus (simp [h1, h2, h3, h4, e1]; done)); refine Yp ?_) | refine Yg ?_ | (simp only [X0, Nat.reduceBEq]) | clear hK K)
    exact .pure .bool
  simp only [Bool.not_false, Bool.true_and]
  repeat' (first | ((first | refine Yl rfl fun K9 h9 => ?_ | (refine Ym ?_ ?_; (focus (simp [h1, h2, h3, h4, e1]; done)); intro K9 h9)); simp (disch := first | exact dd | fail) [h1, h2, h3, h4, e1]; (try simp (disch := first | exact de | fail) only [X7]); ((first | refine Ap hk ?_ | skip) <;> ((repeat (refine Yz ?_)); (first | refine h9 _ _ (Yp ?_)); clear h9 K9))) | refine Yo ?_ | (refine Y8 fun K hK => ?_) | refine Yq ?_ | (apply hK; clear hK K) | refine Ya ?_ | (refine Yb rfl ?_ ?_ <;> intro hcnd <;> (try simp at hcnd) <;> try exact dc) | refine Yc ?_ | (refine Yd ?_; simp only [X0, Nat.reduceBEq]) | (refine Ye ?_; refine Yf ?_) | (refine Yn ?_ ?_; (focus (simp [h1, h2, h3, h4, e1]; done)); refine Yp ?_) | refine Yg ?_ | (simp only [X0, Nat.reduceBEq]) | clear hK K)
  · refine awp_loopU (α := Nat) (fun i => (some V.junk :: none :: some V.junk :: none :: zS 28 (zN 2 (some (V.int .i64 i) :: zS 15 [])))) (fun i => [.live (l.map byteV)]) (fun i => i ≤ l.length ∧ ∀ j (h : j < l.length), j < i → okM l[j] = true) (fun i => l.length - i) 0 ⟨by omega, fun j _ h => by omega⟩ ?_ ?_
    · dsimp only [ups, zN, zS]
      exact Yr [some 0] (by simp [rowsOver])
    rintro i ⟨hi, hall⟩ KL hL
    dsimp only [ups, zN, zS]
    rcases Nat.lt_or_ge i l.length with hi | hi
    · have hstep : okM l[i] = true → i + 1 ≤ l.length ∧ ∀ j (h : j < l.length), j < i + 1 → okM l[j] = true := fun hx => ⟨by omega, fun j hj h => by
        rcases Nat.lt_or_ge j i with h3 | h3
        · exact hall j hj h3
        · obtain rfl : j = i := by omega
          exact hx⟩
      have hfalse : okM l[i] = false → l.all okM = false := all_false hi
      obtain ⟨c, hcc⟩ : ∃ c, l[i] = c := ⟨_, rfl⟩
      rw [hcc] at hstep hfalse
      have hc1' := letter_call c
      have hc2' := digit_call c
      have hc3' := indexByte_call setL c
      cases hc1 : letB c <;> rw [hc1] at hc1'
      · cases hc2 : digB c <;> rw [hc2] at hc2'
        · by_cases hc3 : 0 ≤ Lib.indexByte setL c
          · unfold setL at hc3 hc3'
            repeat' (first | ((first | refine Yl rfl fun K9 h9 => ?_ | (refine Ym ?_ ?_; (focus (simp [hcc, hc3]; done)); intro K9 h9)); simp (disch := first | exact dd | fail) [hcc, hc3]; (try simp (disch := first | exact de | fail) only [X7]); ((first | refine Ap (hc1') ?_ | refine Ap (hc2') ?_ | refine Ap (hc3') ?_ | skip) <;> ((repeat (refine Yz ?_)); (first | refine h9 _ _ (Yp ?_)); clear h9 K9))) | refine Yo ?_ | (refine Y8 fun K hK => ?_) | refine Yq ?_ | (apply hK; clear hK K) | refine Ya ?_ | (refine Yb rfl ?_ ?_ <;> intro hcnd <;> (try simp at hcnd) <;> try exact dc) | refine Yc ?_ | (refine Yd ?_; simp only [X0, Nat.reduceBEq]) | (refine Ye ?_; refine Yf ?_) | (refine Yn ?_ ?_; (focus (simp [hcc, hc3]; done)); refine Yp ?_) | refine Yg ?_ | (simp only [X0, Nat.reduceBEq]) | clear hK K)
            refine hL (i + 1) _ _ (hstep ?_) (by omega) ?_
            · have := (indexByte_in c setL).1 hc3
              simp [okM, this]
            exact Yr [some 0] (by simp [rowsOver])
          · have hnot : ¬ c ∈ setL := fun h => hc3 ((indexByte_in c setL).2 h)
            unfold setL at hc3 hc3'
            repeat' (first | ((first | refine Yl rfl fun K9 h9 => ?_ | (refine Ym ?_ ?_; (focus (simp [hcc, hc3]; done)); intro K9 h9)); simp (disch := first | exact dd | fail) [hcc, hc3]; (try simp (disch := first | exact de | fail) only [X7]); ((first | refine Ap (hc1') ?_ | refine Ap (hc2') ?_ | refine Ap (hc3') ?_ | skip) <;> ((repeat (refine Yz ?_)); (first | refine h9 _ _ (Yp ?_)); clear h9 K9))) | refine Yo ?_ | (refine Y8 fun K hK => ?_) | refine Yq ?_ | (apply hK; clear hK K) | refine Ya ?_ | (refine Yb rfl ?_ ?_ <;> intro hcnd <;> (try simp at hcnd) <;> try exact dc) | refine Yc ?_ | (refine Yd ?_; simp only [X0, Nat.reduceBEq]) | (refine Ye ?_; refine Yf ?_) | (refine Yn ?_ ?_; (focus (simp [hcc, hc3]; done)); refine Yp ?_) | refine Yg ?_ | (simp only [X0, Nat.reduceBEq]) | clear hK K)
            rw [hfalse (by simp [okM, okB_eq, hc1, hc2, hnot])]
            exact .pure .bool
        · repeat' (first | ((first | refine Yl rfl fun K9 h9 => ?_ | (refine Ym ?_ ?_; (focus (simp [hcc]; done)); intro K9 h9)); simp (disch := first | exact dd | fail) [hcc]; (try simp (disch := first | exact de | fail) only [X7]); ((first | refine Ap (hc1') ?_ | refine Ap (hc2') ?_ | skip) <;> ((repeat (refine Yz ?_)); (first | refine h9 _ _ (Yp ?_)); clear h9 K9))) | refine Yo ?_ | (refine Y8 fun K hK => ?_) | refine Yq ?_ | (apply hK; clear hK K) | refine Ya ?_ | (refine Yb rfl ?_ ?_ <;> intro hcnd <;> (try simp at hcnd) <;> try exact dc) | refine Yc ?_ | (refine Yd ?_; simp only [X0, Nat.reduceBEq]) | (refine Ye ?_; refine Yf ?_) | (refine Yn ?_ ?_; (focus (simp [hcc]; done)); refine Yp ?_) | refine Yg ?_ | (simp only [X0, Nat.reduceBEq]) | clear hK K)
          refine hL (i + 1) _ _ (hstep (by simp [okM, okB_eq, hc2])) (by omega) ?_
          exact Yr [some 0] (by simp [rowsOver])
      · repeat' (first | ((first | refine Yl rfl fun K9 h9 => ?_ | (refine Ym ?_ ?_; (focus (simp [hcc]; done)); intro K9 h9)); simp (disch := first | exact dd | fail) [hcc]; (try simp (disch := first | exact de | fail) only [X7]); ((first | refine Ap (hc1') ?_ | refine Ap (hc2') ?_ | skip) <;> ((repeat (refine Yz ?_)); (first | refine h9 _ _ (Yp ?_)); clear h9 K9))) | refine Yo ?_ | (refine Y8 fun K hK => ?_) | refine Yq ?_ | (apply hK; clear hK K) | refine Ya ?_ | (refine Yb rfl ?_ ?_ <;> intro hcnd <;> (try simp at hcnd) <;> try exact dc) | refine Yc ?_ | (refine Yd ?_; simp only [X0, Nat.reduceBEq]) | (refine Ye ?_; refine Yf ?_) | (refine Yn ?_ ?_; (focus (simp [hcc]; done)); refine Yp ?_) | refine Yg ?_ | (simp only [X0, Nat.reduceBEq]) | clear hK K)
        refine hL (i + 1) _ _ (hstep (by simp [okM, okB_eq, hc1])) (by omega) ?_
        exact Yr [some 0] (by simp [rowsOver])
    · repeat' (first | ((first | refine Yl rfl fun K9 h9 => ?_ | (refine Ym ?_ ?_; (focus (simp; done)); intro K9 h9)); simp (disch := first | exact dd | fail); (try simp (disch := first | exact de | fail) only [X7]); ((repeat (refine Yz ?_)); (first | refine h9 _ _ (Yp ?_)); clear h9 K9)) | refine Yo ?_ | (refine Y8 fun K hK => ?_) | refine Yq ?_ | (apply hK; clear hK K) | refine Ya ?_ | (refine Yb rfl ?_ ?_ <;> intro hcnd <;> (try simp at hcnd) <;> try exact dc) | refine Yc ?_ | (refine Yd ?_; simp only [X0, Nat.reduceBEq]) | (refine Ye ?_; refine Yf ?_) | (refine Yn ?_ ?_; (focus (simp; done)); refine Yp ?_) | refine Yg ?_ | (simp only [X0, Nat.reduceBEq]) | clear hK K)
      rw [all_true fun j hj => hall j hj (by omega)]
      exact .pure .bool
  · exact .bool

def mailB (s : List UInt8) : Bool := decide (64 ∈ s) && (decide (s.length ≤ 128) && (locB (befC 64 s) && dnsB (aftC 64 s)))
def mmatchB (a b : List UInt8) : Bool := mailB a && (mailB b && (befC 64 a == befC 64 b && eqB (aftC 64 a) (aftC 64 b)))
theorem mail_call (s : List UInt8) (hs : s.length ≤ 1000000) : PCall Tryz.prog 76 [.str s] (.bool (mailB s)) := by
  refine pcall_body Tryz.func76 rfl Tryz.call76 ?_ ?_
  rotate_left 1
  refine awp_slots (s' := (.str s : V) :: zJ 25) rfl ?_; dsimp only [zJ]
  have hb := bef_len 64 s
  have ha := aft_len 64 s
  have hc1 := cut_call s 64 (by omega)
  have hc2 := local_call (befC 64 s) (by omega)
  have hc3 := dns_call (aftC 64 s) (by omega)
  unfold mailB
  cases h1 : decide (64 ∈ s) <;> rw [h1] at hc1
  · repeat' (first | ((first | refine Yl rfl fun K9 h9 => ?_ | (refine Ym ?_ ?_; (focus (simp; done)); intro K9 h9)); simp (disch := first | exact dd | fail); (try simp (disch := first | exact de | fail) only [X7]); ((first | refine Ap hc1 ?_ | skip) <;> ((repeat (refine Yz ?_)); (first | refine h9 _ _ (Yp ?_)); clear h9 K9))) | refine Yo ?_ | (refine Y8 fun K hK => ?_) | refine Yq ?_ | (apply hK; clear hK K) | (refine Ye ?_; refine Yf ?_) | (refine Yn ?_ ?_; (focus (simp; done)); refine Yp ?_) | refine Yg ?_ | (simp only [X0, Nat.reduceBEq]) | clear hK K)
    exact .pure .bool
  by_cases h2 : (s.length : Int) ≤ 128
  · have h2' : decide (s.length ≤ 128) = true := by simp; omega
    rw [h2']
    cases h3 : locB (befC 64 s) <;> rw [h3] at hc2
    · repeat' (first | ((first | refine Yl rfl fun K9 h9 => ?_ | (refine Ym ?_ ?_; (focus (simp [h2]; done)); intro K9 h9)); simp (disch := first | exact dd | fail) [h2]; (try simp (disch := first | exact de | fail) only [X7]); ((first | refine Ap hc1 ?_ | refine Ap hc2 ?_ | refine Ap hc3 ?_ | skip) <;> ((repeat (refine Yz ?_)); (first | refine h9 _ _ (Yp ?_)); clear h9 K9))) | refine Yo ?_ | (refine Y8 fun K hK => ?_) | refine Yq ?_ | (apply hK; clear hK K) | (refine Ye ?_; refine Yf ?_) | (refine Yn ?_ ?_; (focus (simp [h2]; done)); refine Yp ?_) | refine Yg ?_ | (simp only [X0, Nat.reduceBEq]) | clear hK K)
      exact .pure .bool
    · repeat' (first | ((first | refine Yl rfl fun K9 h9 => ?_ | (refine Ym ?_ ?_; (focus (simp [h2]; done)); intro K9 h9)); simp (disch := first | exact dd | fail) [h2]; (try simp (disch := first | exact de | fail) only [X7]); ((first | refine Ap hc1 ?_ | refine Ap hc2 ?_ | refine Ap hc3 ?_ | skip) <;> ((repeat (refine Yz ?_)); (first | refine h9 _ _ (Yp ?_)); clear h9 K9))) | refine Yo ?_ | (refine Y8 fun K hK => ?_) | refine Yq ?_ | (apply hK; clear hK K) | (refine Ye ?_; refine Yf ?_) | (refine Yn ?_ ?_; (focus (simp [h2]; done)); refine Yp ?_) | refine Yg ?_ | (simp only [X0, Nat.reduceBEq]) | clear hK K)
      exact .pure .bool
  · have h2' : decide (s.length ≤ 128) = false := by simp; omega
    rw [h2']
    repeat' (first | ((first | refine Yl rfl fun K9 h9 => ?_ | (refine Ym ?_ ?_; (focus (simp [h2]; done)); intro K9 h9)); simp (disch := first | exact dd | fail) [h2]; (try simp (disch := first | exact de | fail) only [X7]); ((first | refine Ap hc1 ?_ | refine Ap hc2 ?_ | refine Ap hc3 ?_ | skip) <;> ((repeat (refine Yz ?_)); (first | refine h9 _ _ (Yp ?_)); clear h9 K9))) | refine Yo ?_ | (refine Y8 fun K hK => ?_) | refine Yq ?_ | (apply hK; clear hK K) | (refine Ye ?_; refine Yf ?_) | (refine Yn ?_ ?_; (focus (simp [h2]; done)); refine Yp ?_) | refine Yg ?_ | (simp only [X0, Nat.reduceBEq]) | clear hK K)
    exact .pure .bool
  · exact .bool

theorem mmatch_call (a b : List UInt8) (hl1 : a.length ≤ 1000000) (hl2 : b.length ≤ 1000000) : PCall Tryz.prog 77 [.str a, .str b] (.bool (mmatchB a b)) := by
  refine pcall_body Tryz.func77 rfl Tryz.call77 ?_ ?_
  rotate_left 1
  refine awp_slots (s' := (.str a : V) :: (.str b : V) :: zJ 37) rfl ?_; dsimp only [zJ]
  have ha := aft_len 64 a
  have hb := aft_len 64 b
  have hc1 := mail_call a hl1
  have hc2 := mail_call b hl2
  have hc3 := cut_call a 64 (by omega)
  have hc4 := cut_call b 64 (by omega)
  have hc5 := equal_call (aftC 64 a) (aftC 64 b) (by omega) (by omega)
  unfold mmatchB
  cases h1 : mailB a <;> rw [h1] at hc1
  · repeat' (first | ((first | refine Yl rfl fun K9 h9 => ?_ | (refine Ym ?_ ?_; (focus (simp; done)); intro K9 h9)); simp (disch := first | exact dd | fail); (try simp (disch := first | exact de | fail) only [X7]); ((first | refine Ap hc1 ?_ | skip) <;> ((repeat (refine Yz ?_)); (first | refine h9 _ _ (Yp ?_)); clear h9 K9))) | refine Yo ?_ | (refine Y8 fun K hK => ?_) | refine Yq ?_ | (apply hK; clear hK K) | (refine Yb rfl ?_ ?_ <;> intro hcnd <;> (try simp at hcnd) <;> try exact dc) | refine Yc ?_ | (refine Ye ?_; refine Yf ?_) | (refine Yn ?_ ?_; (focus (simp; done)); refine Yp ?_) | refine Yg ?_ | (simp only [X0, Nat.reduceBEq]) | clear hK K)
    exact .pure .bool
  cases h2 : mailB b <;> rw [h2] at hc2
  · repeat' (first | ((first | refine Yl rfl fun K9 h9 => ?_ | (refine Ym ?_ ?_; (focus (simp; done)); intro K9 h9)); simp (disch := first | exact dd | fail); (try simp (disch := first | exact de | fail) only [X7]); ((first | refine Ap hc1 ?_ | refine Ap hc2 ?_ | skip) <;> ((repeat (refine Yz ?_)); (first | refine h9 _ _ (Yp ?_)); clear h9 K9))) | refine Yo ?_ | (refine Y8 fun K hK => ?_) | refine Yq ?_ | (apply hK; clear hK K) | (refine Yb rfl ?_ ?_ <;> intro hcnd <;> (try simp at hcnd) <;> try exact dc) | refine Yc ?_ | (refine Ye ?_; refine Yf ?_) | (refine Yn ?_ ?_; (focus (simp; done)); refine Yp ?_) | refine Yg ?_ | (simp only [X0, Nat.reduceBEq]) | clear hK K)
    exact .pure .bool
  generalize befC 64 a = x at *
  generalize befC 64 b = y at *
  by_cases h3 : x = y
  · subst h3
    repeat' (first | ((first | refine Yl rfl fun K9 h9 => ?_ | (refine Ym ?_ ?_; (focus (simp; done)); intro K9 h9)); simp (disch := first | exact dd | fail); (try simp (disch := first | exact de | fail) only [X7]); ((first | refine Ap hc1 ?_ | refine Ap hc2 ?_ | refine Ap hc3 ?_ | refine Ap hc4 ?_ | refine Ap hc5 ?_ | skip) <;> ((repeat (refine Yz ?_)); (first | refine h9 _ _ (Yp ?_)); clear h9 K9))) | refine Yo ?_ | (refine Y8 fun K hK => ?_) | refine Yq ?_ | (apply hK; clear hK K) | (refine Yb rfl ?_ ?_ <;> intro hcnd <;> (try simp at hcnd) <;> try exact dc) | refine Yc ?_ | (refine Ye ?_; refine Yf ?_) | (refine Yn ?_ ?_; (focus (simp; done)); refine Yp ?_) | refine Yg ?_ | (simp only [X0, Nat.reduceBEq]) | clear hK K)
    simp
    exact .pure .bool
  · have h3' : (x == y) = false := by simpa using h3
    repeat' (first | ((first | refine Yl rfl fun K9 h9 => ?_ | (refine Ym ?_ ?_; (focus (simp [h3, h3']; done)); intro K9 h9)); simp (disch := first | exact dd | fail) [h3, h3']; (try simp (disch := first | exact de | fail) only [X7]); ((first | refine Ap hc1 ?_ | refine Ap hc2 ?_ | refine Ap hc3 ?_ | refine Ap hc4 ?_ | refine Ap hc5 ?_ | skip) <;> ((repeat (refine Yz ?_)); (first | refine h9 _ _ (Yp ?_)); clear h9 K9))) | refine Yo ?_ | (refine Y8 fun K hK => ?_) | refine Yq ?_ | (apply hK; clear hK K) | (refine Yb rfl ?_ ?_ <;> intro hcnd <;> (try simp at hcnd) <;> try exact dc) | refine Yc ?_ | (refine Ye ?_; refine Yf ?_) | (refine Yn ?_ ?_; (focus (simp [h3, h3']; done)); refine Yp ?_) | refine Yg ?_ | (simp only [X0, Nat.reduceBEq]) | clear hK K)
    rw [h3']
    exact .pure .bool
  · exact .bool
end Go.Proofs.YtcfmanhblonjeaaGreatDoor.Ho
namespace Go.Proofs.YtcfmanhblonjeaaGreatDoor.Ho
open Go.VS Go.Hst
set_option linter.all false
set_option maxRecDepth 100000
attribute [local irreducible] arun arunD arunU AWp aend
def partsV (s : List UInt8) : V := if mailB s = true then .tup [.str (befC 64 s), .str (aftC 64 s), .bool true] else .tup [.str [], .str [], .bool false]
theorem bef_at {s : List UInt8} {k : Nat} (hk : k < s.length) (h : s[k] = 64) (hn : ∀ j (hj : j < s.length), j < k → s[j] ≠ 64) : befC 64 s = s.take k ∧ aftC 64 s = s.drop (k + 1) ∧ 64 ∈ s := by
  have hm : (64 : UInt8) ∉ s.take k := by
    intro hm
    obtain ⟨j, hj, e⟩ := List.getElem_of_mem hm
    simp at hj
    rw [List.getElem_take] at e
    exact hn j (by omega) (by omega) e
  have hs : s = s.take k ++ 64 :: s.drop (k + 1) := by
    conv => lhs; rw [← List.take_append_drop k s, List.drop_eq_getElem_cons hk, h]
  have hin : 64 ∈ s := by rw [← h]; exact List.getElem_mem _
  have hb := bef_aft 64 s hin
  have hnb := bef_not 64 s
  have hlen : (befC 64 s).length = k := by
    rcases Nat.lt_trichotomy (befC 64 s).length k with h1 | h1 | h1
    · exfalso
      have h2 : (befC 64 s).length < s.length := by omega
      have : s[(befC 64 s).length] = 64 := by
        have : ∀ (t : List UInt8) (e : t = befC 64 s ++ 64 :: aftC 64 s) (h : (befC 64 s).length < t.length), t[(befC 64 s).length] = 64 := by
          rintro t rfl h; simp
        exact this s hb h2
      exact hn _ h2 h1 this
    · exact h1
    · exfalso
      apply hnb
      have : s[k] = (befC 64 s)[k] := by
        have : ∀ (t : List UInt8) (e : t = befC 64 s ++ 64 :: aftC 64 s) (h : k < t.length), t[k] = (befC 64 s)[k] := by
          rintro t rfl h; rw [List.getElem_append_left]
        exact this s hb hk
      have h64 : (befC 64 s)[k] = 64 := by rw [← this]; exact h
      have hmem : (befC 64 s)[k] ∈ befC 64 s := List.getElem_mem _
      rw [h64] at hmem
      exact hmem
  have h1 := take_app hb
  have h2 := drop_app hb
  rw [hlen] at h1 h2
  exact ⟨h1.symm, h2.symm, hin⟩

theorem dd_iff (w : List UInt8) : ddB w = true ↔ ∃ i, ∃ h : i + 1 < w.length, w[i] = 46 ∧ w[i + 1] = 46 := by
  unfold ddB Lib.contains
  rw [decide_eq_true_iff]
  induction w with
  | nil => simp [Lib.index]
  | cons b l ih =>
    unfold Lib.index
    have hg := Lib.index_ge l [46, 46]
    by_cases hp : ([46, 46] : List UInt8).isPrefixOf (b :: l) = true
    · rw [if_pos hp]
      rw [List.isPrefixOf_iff_prefix] at hp
      obtain ⟨t, ht⟩ := hp
      refine ⟨fun _ => ⟨0, ?_, ?_⟩, fun _ => by decide⟩
      · rw [← ht]; simp
      · have h1 := congrArg (fun l : List UInt8 => l[0]?) ht
        have h2 := congrArg (fun l : List UInt8 => l[1]?) ht
        simp at h1 h2
        cases l with
        | nil => simp at h2
        | cons c l => simp at h2 ⊢; exact ⟨h1.symm, h2.symm⟩
    · rw [if_neg hp]
      by_cases hi : Lib.index l [46, 46] = -1
      · have : ¬ ∃ i, ∃ h : i + 1 < l.length, l[i] = 46 ∧ l[i + 1] = 46 := fun h => by have := ih.2 h; omega
        simp only [hi]
        constructor
        · intro h; exact absurd h (by decide)
        · rintro ⟨i, h, h1, h2⟩
          exfalso
          cases i with
          | zero =>
            apply hp
            rw [List.isPrefixOf_iff_prefix]
            cases l with
            | nil => simp at h
            | cons c l =>
              simp at h1 h2
              subst h1; subst h2
              exact ⟨l, rfl⟩
          | succ i => exact this ⟨i, by simpa using h, by simpa using h1, by simpa using h2⟩
      · have hpos : 0 ≤ Lib.index l [46, 46] := by omega
        rw [if_neg (by simpa using hi)]
        obtain ⟨i, h, h1, h2⟩ := ih.1 hpos
        exact ⟨fun _ => ⟨i + 1, by simpa using h, by simpa using h1, by simpa using h2⟩, fun _ => by omega⟩

set_option maxHeartbeats 8000000 in
theorem parts_call (s : List UInt8) (hs : s.length ≤ 1000000) : PCall Tryz.prog 108 [.str s] (partsV s) := by
  refine pcall_body Tryz.func108 rfl Tryz.call108 ?_ ?_
  rotate_left 1
  refine awp_slots (s' := (.str s : V) :: zJ 90) rfl ?_; dsimp only [zJ]
  by_cases h1 : (128 : Int) < s.length
  · repeat' (first | ((first | refine Yl rfl fun K9 h9 => ?_ | refine Y1 rfl rfl fun K9 h9 => ?_ | refine Y2 rfl rfl fun K9 h9 => ?_ | (refine Ym ?_ ?_; (focus (simp [h1]; done)); intro K9 h9) | ((first | refine Y4 rfl ?_ ?_ | refine Y5 rfl ?_ ?_); (focus (simp [h1]; done)); intro K9 h9)); simp (disch := first | exact dd | fail) [h1]; (try simp (disch := first | exact de | fail) only [X7]); ((repeat (refine Yz ?_)); (first | refine h9 _ _ (Yp ?_) | refine h9 _ _ (Yt ?_)); clear h9 K9)) | refine Yo ?_ | refine Y7 ?_ | (refine Y8 fun K hK => ?_) | refine Yq ?_ | (apply hK; clear hK K) | ((first | refine Yk (m := 0) (by decide +kernel) [] (by kernel_rfl) (by decide +kernel) ?_); simp only [List.replicate, XL]) | refine Ya ?_ | (refine Yb rfl ?_ ?_ <;> intro hcnd <;> (try simp at hcnd) <;> try exact dc) | refine Yc ?_ | (refine Yd ?_; simp only [X0, Nat.reduceBEq]) | (refine Ye ?_; refine Yf ?_) | (refine Yn ?_ ?_; (focus (simp [h1]; done)); refine Yp ?_) | ((first | refine Yi rfl ?_ ?_ | refine Yj rfl ?_ ?_); (focus (simp [h1]; done)); refine Yt ?_) | refine Yg ?_ | (simp only [X0, Nat.reduceBEq]) | clear hK K)
    have : mailB s = false := by
      have : decide (s.length ≤ 128) = false := by simp; omega
      simp [mailB, this]
    rw [partsV, this]
    exact .pure (by simp)
  repeat' (first | ((first | refine Yl rfl fun K9 h9 => ?_ | refine Y1 rfl rfl fun K9 h9 => ?_ | refine Y2 rfl rfl fun K9 h9 => ?_ | (refine Ym ?_ ?_; (focus (simp [h1]; done)); intro K9 h9) | ((first | refine Y4 rfl ?_ ?_ | refine Y5 rfl ?_ ?_); (focus (simp [h1]; done)); intro K9 h9)); simp (disch := first | exact dd | fail) [h1]; (try simp (disch := first | exact de | fail) only [X7]); ((repeat (refine Yz ?_)); (first | refine h9 _ _ (Yp ?_) | refine h9 _ _ (Yt ?_)); clear h9 K9)) | refine Yo ?_ | refine Y7 ?_ | (refine Y8 fun K hK => ?_) | refine Yq ?_ | (apply hK; clear hK K) | ((first | refine Yk (m := 0) (by decide +kernel) [] (by kernel_rfl) (by decide +kernel) ?_); simp only [List.replicate, XL]) | refine Ya ?_ | (refine Yb rfl ?_ ?_ <;> intro hcnd <;> (try simp at hcnd) <;> try exact dc) | refine Yc ?_ | (refine Yd ?_; simp only [X0, Nat.reduceBEq]) | (refine Ye ?_; refine Yf ?_) | (refine Yn ?_ ?_; (focus (simp [h1]; done)); refine Yp ?_) | ((first | refine Yi rfl ?_ ?_ | refine Yj rfl ?_ ?_); (focus (simp [h1]; done)); refine Yt ?_) | refine Yg ?_ | (simp only [X0, Nat.reduceBEq]) | clear hK K)
  · refine awp_loopU (α := Nat) (fun i => (zN 2 (zS 3 (some (V.int .i64 i) :: zS 85 [])))) (fun i => []) (fun i => i ≤ s.length ∧ ∀ j (h : j < s.length), j < i → s[j] ≠ 64) (fun i => s.length - i) 0 ⟨by omega, fun j _ h => by omega⟩ ?_ ?_
    · dsimp only [ups, zN, zS]
      exact Yr [] (by simp [rowsOver])
    rintro k ⟨hk, hall⟩ KL hL
    dsimp only [ups, zN, zS]
    have no : mailB s = false → partsV s = .tup [.str [], .str [], .bool false] := fun h => by rw [partsV, h]; rfl
    rcases Nat.lt_or_ge k s.length with hk | hk
    rotate_left 1
    · obtain rfl : k = s.length := by omega
      have hno : mailB s = false := by
        have : ¬ 64 ∈ s := fun hm => by
          obtain ⟨j, hj, e⟩ := List.getElem_of_mem hm
          exact hall j hj hj e
        simp [mailB, this]
      have hno := no hno
      by_cases h2 : (s.length : Int) < 1
      · repeat' (first | ((first | refine Yl rfl fun K9 h9 => ?_ | refine Y1 rfl rfl fun K9 h9 => ?_ | refine Y2 rfl rfl fun K9 h9 => ?_ | (refine Ym ?_ ?_; (focus (simp [h2]; done)); intro K9 h9) | ((first | refine Y4 rfl ?_ ?_ | refine Y5 rfl ?_ ?_); (focus (simp [h2]; done)); intro K9 h9)); simp (disch := first | exact dd | fail) [h2]; (try simp (disch := first | exact de | fail) only [X7]); ((repeat (refine Yz ?_)); (first | refine h9 _ _ (Yp ?_) | refine h9 _ _ (Yt ?_)); clear h9 K9)) | refine Yo ?_ | refine Y7 ?_ | (refine Y8 fun K hK => ?_) | refine Yq ?_ | (apply hK; clear hK K) | ((first | refine Yk (m := 0) (by decide +kernel) [] (by kernel_rfl) (by decide +kernel) ?_); simp only [List.replicate, XL]) | refine Ya ?_ | (refine Yb rfl ?_ ?_ <;> intro hcnd <;> (try simp at hcnd) <;> try exact dc) | refine Yc ?_ | (refine Yd ?_; simp only [X0, Nat.reduceBEq]) | (refine Ye ?_; refine Yf ?_) | (refine Yn ?_ ?_; (focus (simp [h2]; done)); refine Yp ?_) | ((first | refine Yi rfl ?_ ?_ | refine Yj rfl ?_ ?_); (focus (simp [h2]; done)); refine Yt ?_) | refine Yg ?_ | (simp only [X0, Nat.reduceBEq]) | clear hK K)
        rw [hno]
        simp
        exact .pure (by simp)
      by_cases h3 : (64 : Int) < s.length
      · repeat' (first | ((first | refine Yl rfl fun K9 h9 => ?_ | refine Y1 rfl rfl fun K9 h9 => ?_ | refine Y2 rfl rfl fun K9 h9 => ?_ | (refine Ym ?_ ?_; (focus (simp [h2, h3]; done)); intro K9 h9) | ((first | refine Y4 rfl ?_ ?_ | refine Y5 rfl ?_ ?_); (focus (simp [h2, h3]; done)); intro K9 h9)); simp (disch := first | exact dd | fail) [h2, h3]; (try simp (disch := first | exact de | fail) only [X7]); ((repeat (refine Yz ?_)); (first | refine h9 _ _ (Yp ?_) | refine h9 _ _ (Yt ?_)); clear h9 K9)) | refine Yo ?_ | refine Y7 ?_ | (refine Y8 fun K hK => ?_) | refine Yq ?_ | (apply hK; clear hK K) | ((first | refine Yk (m := 0) (by decide +kernel) [] (by kernel_rfl) (by decide +kernel) ?_); simp only [List.replicate, XL]) | refine Ya ?_ | (refine Yb rfl ?_ ?_ <;> intro hcnd <;> (try simp at hcnd) <;> try exact dc) | refine Yc ?_ | (refine Yd ?_; simp only [X0, Nat.reduceBEq]) | (refine Ye ?_; refine Yf ?_) | (refine Yn ?_ ?_; (focus (simp [h2, h3]; done)); refine Yp ?_) | ((first | refine Yi rfl ?_ ?_ | refine Yj rfl ?_ ?_); (focus (simp [h2, h3]; done)); refine Yt ?_) | refine Yg ?_ | (simp only [X0, Nat.reduceBEq]) | clear hK K)
        rw [hno]
        simp
        exact .pure (by simp)
      · repeat' (first | ((first | refine Yl rfl fun K9 h9 => ?_ | refine Y1 rfl rfl fun K9 h9 => ?_ | refine Y2 rfl rfl fun K9 h9 => ?_ | (refine Ym ?_ ?_; (focus (simp [h2, h3]; done)); intro K9 h9) | ((first | refine Y4 rfl ?_ ?_ | refine Y5 rfl ?_ ?_); (focus (simp [h2, h3]; done)); intro K9 h9)); simp (disch := first | exact dd | fail) [h2, h3]; (try simp (disch := first | exact de | fail) only [X7]); ((repeat (refine Yz ?_)); (first | refine h9 _ _ (Yp ?_) | refine h9 _ _ (Yt ?_)); clear h9 K9)) | refine Yo ?_ | refine Y7 ?_ | (refine Y8 fun K hK => ?_) | refine Yq ?_ | (apply hK; clear hK K) | ((first | refine Yk (m := 0) (by decide +kernel) [] (by kernel_rfl) (by decide +kernel) ?_); simp only [List.replicate, XL]) | refine Ya ?_ | (refine Yb rfl ?_ ?_ <;> intro hcnd <;> (try simp at hcnd) <;> try exact dc) | refine Yc ?_ | (refine Yd ?_; simp only [X0, Nat.reduceBEq]) | (refine Ye ?_; refine Yf ?_) | (refine Yn ?_ ?_; (focus (simp [h2, h3]; done)); refine Yp ?_) | ((first | refine Yi rfl ?_ ?_ | refine Yj rfl ?_ ?_); (focus (simp [h2, h3]; done)); refine Yt ?_) | refine Yg ?_ | (simp only [X0, Nat.reduceBEq]) | clear hK K)
        rw [hno]
        simp
        exact .pure (by simp)
    by_cases hx : s[k] = 64
    rotate_left 1
    · have hx' : ¬ ((s[k].toNat : Int) = 64) := fun e => hx ((u8i _ 64 64 rfl).1 e)
      repeat' (first | ((first | refine Yl rfl fun K9 h9 => ?_ | refine Y1 rfl rfl fun K9 h9 => ?_ | refine Y2 rfl rfl fun K9 h9 => ?_ | (refine Ym ?_ ?_; (focus (simp [hk, hx']; done)); intro K9 h9) | ((first | refine Y4 rfl ?_ ?_ | refine Y5 rfl ?_ ?_); (focus (simp [hk, hx']; done)); intro K9 h9)); simp (disch := first | exact dd | fail) [hk, hx']; (try simp (disch := first | exact de | fail) only [X7]); ((repeat (refine Yz ?_)); (first | refine h9 _ _ (Yp ?_) | refine h9 _ _ (Yt ?_)); clear h9 K9)) | refine Yo ?_ | refine Y7 ?_ | (refine Y8 fun K hK => ?_) | refine Yq ?_ | (apply hK; clear hK K) | ((first | refine Yk (m := 0) (by decide +kernel) [] (by kernel_rfl) (by decide +kernel) ?_); simp only [List.replicate, XL]) | refine Ya ?_ | (refine Yb rfl ?_ ?_ <;> intro hcnd <;> (try simp at hcnd) <;> try exact dc) | refine Yc ?_ | (refine Yd ?_; simp only [X0, Nat.reduceBEq]) | (refine Ye ?_; refine Yf ?_) | (refine Yn ?_ ?_; (focus (simp [hk, hx']; done)); refine Yp ?_) | ((first | refine Yi rfl ?_ ?_ | refine Yj rfl ?_ ?_); (focus (simp [hk, hx']; done)); refine Yt ?_) | refine Yg ?_ | (simp only [X0, Nat.reduceBEq]) | clear hK K)
      refine hL (k + 1) _ _ ⟨by omega, fun j hj h => ?_⟩ (by omega) ?_
      · rcases Nat.lt_or_ge j k with h3 | h3
        · exact hall j hj h3
        · obtain rfl : j = k := by omega
          exact hx
      · exact Yr [] (by simp [rowsOver])
    have hx' : ((s[k].toNat : Int) = 64) := by rw [hx]; rfl
    obtain ⟨hbef, haft, hin⟩ := bef_at hk hx hall
    have hmail : mailB s = (locB (s.take k) && dnsB (s.drop (k + 1))) := by
      have q1 : decide (s.length ≤ 128) = true := by simp; omega
      have q2 : decide (64 ∈ s) = true := by simpa using hin
      rw [mailB, q1, q2, hbef, haft]; rfl
    have hwl : (s.take k).length = k := by simp; omega
    by_cases h2 : k = 0
    · subst h2
      have hno := no (by rw [hmail]; rfl)
      repeat' (first | ((first | refine Yl rfl fun K9 h9 => ?_ | refine Y1 rfl rfl fun K9 h9 => ?_ | refine Y2 rfl rfl fun K9 h9 => ?_ | (refine Ym ?_ ?_; (focus (simp [hk, hx']; done)); intro K9 h9) | ((first | refine Y4 rfl ?_ ?_ | refine Y5 rfl ?_ ?_); (focus (simp [hk, hx']; done)); intro K9 h9)); simp (disch := first | exact dd | fail) [hk, hx']; (try simp (disch := first | exact de | fail) only [X7]); ((repeat (refine Yz ?_)); (first | refine h9 _ _ (Yp ?_) | refine h9 _ _ (Yt ?_)); clear h9 K9)) | refine Yo ?_ | refine Y7 ?_ | (refine Y8 fun K hK => ?_) | refine Yq ?_ | (apply hK; clear hK K) | ((first | refine Yk (m := 0) (by decide +kernel) [] (by kernel_rfl) (by decide +kernel) ?_); simp only [List.replicate, XL]) | refine Ya ?_ | (refine Yb rfl ?_ ?_ <;> intro hcnd <;> (try simp at hcnd) <;> try exact dc) | refine Yc ?_ | (refine Yd ?_; simp only [X0, Nat.reduceBEq]) | (refine Ye ?_; refine Yf ?_) | (refine Yn ?_ ?_; (focus (simp [hk, hx']; done)); refine Yp ?_) | ((first | refine Yi rfl ?_ ?_ | refine Yj rfl ?_ ?_); (focus (simp [hk, hx']; done)); refine Yt ?_) | refine Yg ?_ | (simp only [X0, Nat.reduceBEq]) | clear hK K)
      rw [hno]
      simp
      exact .pure (by simp)
    have h2' : ¬ (k : Int) < 1 := by omega
    by_cases h3 : (64 : Int) < k
    · have hno := no (by
        have : decide ((s.take k).length ≤ 64) = false := by rw [hwl]; simp; omega
        rw [hmail, locB, this]; simp)
      repeat' (first | ((first | refine Yl rfl fun K9 h9 => ?_ | refine Y1 rfl rfl fun K9 h9 => ?_ | refine Y2 rfl rfl fun K9 h9 => ?_ | (refine Ym ?_ ?_; (focus (simp [hk, hx', h2', h3]; done)); intro K9 h9) | ((first | refine Y4 rfl ?_ ?_ | refine Y5 rfl ?_ ?_); (focus (simp [hk, hx', h2', h3]; done)); intro K9 h9)); simp (disch := first | exact dd | fail) [hk, hx', h2', h3]; (try simp (disch := first | exact de | fail) only [X7]); ((repeat (refine Yz ?_)); (first | refine h9 _ _ (Yp ?_) | refine h9 _ _ (Yt ?_)); clear h9 K9)) | refine Yo ?_ | refine Y7 ?_ | (refine Y8 fun K hK => ?_) | refine Yq ?_ | (apply hK; clear hK K) | ((first | refine Yk (m := 0) (by decide +kernel) [] (by kernel_rfl) (by decide +kernel) ?_); simp only [List.replicate, XL]) | refine Ya ?_ | (refine Yb rfl ?_ ?_ <;> intro hcnd <;> (try simp at hcnd) <;> try exact dc) | refine Yc ?_ | (refine Yd ?_; simp only [X0, Nat.reduceBEq]) | (refine Ye ?_; refine Yf ?_) | (refine Yn ?_ ?_; (focus (simp [hk, hx', h2', h3]; done)); refine Yp ?_) | ((first | refine Yi rfl ?_ ?_ | refine Yj rfl ?_ ?_); (focus (simp [hk, hx', h2', h3]; done)); refine Yt ?_) | refine Yg ?_ | (simp only [X0, Nat.reduceBEq]) | clear hK K)
      rw [hno]
      simp
      exact .pure (by simp)
    have h4 : ¬ (k : Int) = s.length := by omega
    have ek : ((k : Int) + 1).toNat = k + 1 := by omega
    have ek1 : ((k : Int) - 1).toNat = k - 1 := by omega
    have hd := rdns_call (s.drop (k + 1)) (by simp; omega)
    cases h5 : dnsB (s.drop (k + 1)) <;> rw [h5] at hd
    · have hno := no (by rw [hmail, h5]; simp)
      repeat' (first | ((first | refine Yl rfl fun K9 h9 => ?_ | refine Y1 rfl rfl fun K9 h9 => ?_ | refine Y2 rfl rfl fun K9 h9 => ?_ | (refine Ym ?_ ?_; (focus (simp [hk, hx', h2', h3, h4, ek, List.take_of_length_le]; done)); intro K9 h9) | ((first | refine Y4 rfl ?_ ?_ | refine Y5 rfl ?_ ?_); (focus (simp [hk, hx', h2', h3, h4, ek, List.take_of_length_le]; done)); intro K9 h9)); simp (disch := first | exact dd | fail) [hk, hx', h2', h3, h4, ek, List.take_of_length_le]; (try simp (disch := first | exact de | fail) only [X7]); ((first | refine Ap hd ?_ | skip) <;> ((repeat (refine Yz ?_)); (first | refine h9 _ _ (Yp ?_) | refine h9 _ _ (Yt ?_)); clear h9 K9))) | refine Yo ?_ | refine Y7 ?_ | (refine Y8 fun K hK => ?_) | refine Yq ?_ | (apply hK; clear hK K) | ((first | refine Yk (m := 0) (by decide +kernel) [] (by kernel_rfl) (by decide +kernel) ?_); simp only [List.replicate, XL]) | refine Ya ?_ | (refine Yb rfl ?_ ?_ <;> intro hcnd <;> (try simp at hcnd) <;> try exact dc) | refine Yc ?_ | (refine Yd ?_; simp only [X0, Nat.reduceBEq]) | (refine Ye ?_; refine Yf ?_) | (refine Yn ?_ ?_; (focus (simp [hk, hx', h2', h3, h4, ek, List.take_of_length_le]; done)); refine Yp ?_) | ((first | refine Yi rfl ?_ ?_ | refine Yj rfl ?_ ?_); (focus (simp [hk, hx', h2', h3, h4, ek, List.take_of_length_le]; done)); refine Yt ?_) | refine Yg ?_ | (simp only [X0, Nat.reduceBEq]) | clear hK K)
      rw [hno]
      simp
      exact .pure (by simp)
    rw [h5, Bool.and_true] at hmail
    have hpos : 0 < s.length := by omega
    have g0 : (s.take k).getD 0 0 = s[0]'hpos := by
      rw [List.getD_eq_getElem?_getD, List.getElem?_eq_getElem (by omega)]; simp
    have g1 : (s.take k).getD ((s.take k).length - 1) 0 = s[k - 1]'(by omega) := by
      rw [hwl, List.getD_eq_getElem?_getD, List.getElem?_eq_getElem (by omega)]; simp
    by_cases h6 : ((s[0]'hpos).toNat : Int) = 46
    · have hno := no (by
        have : s[0]'hpos = 46 := u46.1 h6
        rw [hmail, locB, g0, this]; simp)
      repeat' (first | ((first | refine Yl rfl fun K9 h9 => ?_ | refine Y1 rfl rfl fun K9 h9 => ?_ | refine Y2 rfl rfl fun K9 h9 => ?_ | (refine Ym ?_ ?_; (focus (simp [hk, hx', h2', h3, h4, ek, h6, List.take_of_length_le]; done)); intro K9 h9) | ((first | refine Y4 rfl ?_ ?_ | refine Y5 rfl ?_ ?_); (focus (simp [hk, hx', h2', h3, h4, ek, h6, List.take_of_length_le]; done)); intro K9 h9)); simp (disch := first | exact dd | fail) [hk, hx', h2', h3, h4, ek, h6, List.take_of_length_le]; (try simp (disch := first | exact de | fail) only [X7]); ((first | refine Ap hd ?_ | skip) <;> ((repeat (refine Yz ?_)); (first | refine h9 _ _ (Yp ?_) | refine h9 _ _ (Yt ?_)); clear h9 K9))) | refine Yo ?_ | refine Y7 ?_ | (refine Y8 fun K hK => ?_) | refine Yq ?_ | (apply hK; clear hK K) | ((first | refine Yk (m := 0) (by decide +kernel) [] (by kernel_rfl) (by decide +kernel) ?_); simp only [List.replicate, XL]) | refine Ya ?_ | (refine Yb rfl ?_ ?_ <;> intro hcnd <;> (try simp at hcnd) <;> try exact dc) | refine Yc ?_ | (refine Yd ?_; simp only [X0, Nat.reduceBEq]) | (refine Ye ?_; refine Yf ?_) | (refine Yn ?_ ?_; (focus (simp [hk, hx', h2', h3, h4, ek, h6, List.take_of_length_le]; done)); refine Yp ?_) | ((first | refine Yi rfl ?_ ?_ | refine Yj rfl ?_ ?_); (focus (simp [hk, hx', h2', h3, h4, ek, h6, List.take_of_length_le]; done)); refine Yt ?_) | refine Yg ?_ | (simp only [X0, Nat.reduceBEq]) | clear hK K)
      rw [hno]
      simp
      exact .pure (by simp)
    by_cases h7 : ((s[k - 1]'(by omega)).toNat : Int) = 46
    · have hno := no (by
        have : s[k - 1]'(by omega) = 46 := u46.1 h7
        rw [hmail, locB, g0, g1, this]; simp)
      repeat' (first | ((first | refine Yl rfl fun K9 h9 => ?_ | refine Y1 rfl rfl fun K9 h9 => ?_ | refine Y2 rfl rfl fun K9 h9 => ?_ | (refine Ym ?_ ?_; (focus (simp [hk, hx', h2', h3, h4, ek, ek1, h6, h7, List.take_of_length_le]; done)); intro K9 h9) | ((first | refine Y4 rfl ?_ ?_ | refine Y5 rfl ?_ ?_); (focus (simp [hk, hx', h2', h3, h4, ek, ek1, h6, h7, List.take_of_length_le]; done)); intro K9 h9)); simp (disch := first | exact dd | fail) [hk, hx', h2', h3, h4, ek, ek1, h6, h7, List.take_of_length_le]; (try simp (disch := first | exact de | fail) only [X7]); ((first | refine Ap hd ?_ | skip) <;> ((repeat (refine Yz ?_)); (first | refine h9 _ _ (Yp ?_) | refine h9 _ _ (Yt ?_)); clear h9 K9))) | refine Yo ?_ | refine Y7 ?_ | (refine Y8 fun K hK => ?_) | refine Yq ?_ | (apply hK; clear hK K) | ((first | refine Yk (m := 0) (by decide +kernel) [] (by kernel_rfl) (by decide +kernel) ?_); simp only [List.replicate, XL]) | refine Ya ?_ | (refine Yb rfl ?_ ?_ <;> intro hcnd <;> (try simp at hcnd) <;> try exact dc) | refine Yc ?_ | (refine Yd ?_; simp only [X0, Nat.reduceBEq]) | (refine Ye ?_; refine Yf ?_) | (refine Yn ?_ ?_; (focus (simp [hk, hx', h2', h3, h4, ek, ek1, h6, h7, List.take_of_length_le]; done)); refine Yp ?_) | ((first | refine Yi rfl ?_ ?_ | refine Yj rfl ?_ ?_); (focus (simp [hk, hx', h2', h3, h4, ek, ek1, h6, h7, List.take_of_length_le]; done)); refine Yt ?_) | refine Yg ?_ | (simp only [X0, Nat.reduceBEq]) | clear hK K)
      rw [hno]
      simp
      exact .pure (by simp)
    have hB : mailB s = (!ddB (s.take k) && (s.take k).all okM) := by
      have q1 : decide (1 ≤ (s.take k).length) = true := by rw [hwl]; simp; omega
      have q2 : decide ((s.take k).length ≤ 64) = true := by rw [hwl]; simp; omega
      have q3 : s[0]'(by omega) ≠ 46 := fun e => h6 (u46.2 e)
      have q4 : s[k - 1]'(by omega) ≠ 46 := fun e => h7 (u46.2 e)
      rw [hmail, locB, g0, g1, beq_false_of_ne q3, beq_false_of_ne q4, q1, q2]; rfl
    repeat' (first | ((first | refine Yl rfl fun K9 h9 => ?_ | refine Y1 rfl rfl fun K9 h9 => ?_ | refine Y2 rfl rfl fun K9 h9 => ?_ | (refine Ym ?_ ?_; (focus (simp [hk, hx', h2', h3, h4, ek, ek1, h6, h7, List.take_of_length_le]; done)); intro K9 h9) | ((first | refine Y4 rfl ?_ ?_ | refine Y5 rfl ?_ ?_); (focus (simp [hk, hx', h2', h3, h4, ek, ek1, h6, h7, List.take_of_length_le]; done)); intro K9 h9)); simp (disch := first | exact dd | fail) [hk, hx', h2', h3, h4, ek, ek1, h6, h7, List.take_of_length_le]; (try simp (disch := first | exact de | fail) only [X7]); ((first | refine Ap hd ?_ | skip) <;> ((repeat (refine Yz ?_)); (first | refine h9 _ _ (Yp ?_) | refine h9 _ _ (Yt ?_)); clear h9 K9))) | refine Yo ?_ | refine Y7 ?_ | (refine Y8 fun K hK => ?_) | refine Yq ?_ | (apply hK; clear hK K) | ((first | refine Yk (m := 0) (by decide +kernel) [] (by kernel_rfl) (by decide +kernel) ?_); simp only [List.replicate, XL]) | refine Ya ?_ | (refine Yb rfl ?_ ?_ <;> intro hcnd <;> (try simp at hcnd) <;> try exact dc) | refine Yc ?_ | (refine Yd ?_; simp only [X0, Nat.reduceBEq]) | (refine Ye ?_; refine Yf ?_) | (refine Yn ?_ ?_; (focus (simp [hk, hx', h2', h3, h4, ek, ek1, h6, h7, List.take_of_length_le]; done)); refine Yp ?_) | ((first | refine Yi rfl ?_ ?_ | refine Yj rfl ?_ ?_); (focus (simp [hk, hx', h2', h3, h4, ek, ek1, h6, h7, List.take_of_length_le]; done)); refine Yt ?_) | refine Yg ?_ | (simp only [X0, Nat.reduceBEq]) | clear hK K)
    refine awp_loopU (α := Nat) (fun i => (zN 2 (zS 3 (none :: some (V.int .i64 i) :: zS 84 [])))) (fun i => []) (fun i => i ≤ k ∧ ∀ j (h : j < s.length), j < i → okM s[j] = true ∧ ¬ (s[j] = 46 ∧ s.getD (j + 1) 0 = 46)) (fun i => k - i) 0 ⟨by omega, fun j _ h => by omega⟩ ?_ ?_
    · dsimp only [ups, zN, zS]
      exact Yr [] (by simp [rowsOver])
    rintro i ⟨hi, hall2⟩ KL2 hL2
    dsimp only [ups, zN, zS]
    rcases Nat.lt_or_ge i k with hi | hi
    · have his : i < s.length := by omega
      have his1 : i + 1 < s.length := by omega
      have ei : ((i : Int) + 1).toNat = i + 1 := by omega
      have hgd : s.getD (i + 1) 0 = s[i + 1] := by rw [List.getD_eq_getElem?_getD, List.getElem?_eq_getElem his1]; rfl
      have hstep : okM s[i] = true → ¬ (s[i] = 46 ∧ s[i + 1] = 46) → i + 1 ≤ k ∧ ∀ j (h : j < s.length), j < i + 1 → okM s[j] = true ∧ ¬ (s[j] = 46 ∧ s.getD (j + 1) 0 = 46) := fun hx hy => ⟨by omega, fun j hj h => by
        rcases Nat.lt_or_ge j i with h3 | h3
        · exact hall2 j hj h3
        · obtain rfl : j = i := by omega
          rw [hgd]
          exact ⟨hx, hy⟩⟩
      have hfalse : okM s[i] = false → mailB s = false := fun h => by
        have : (s.take k).all okM = false := by
          refine all_false (i := i) (by omega) ?_
          rw [List.getElem_take]; exact h
        rw [hB, this]; simp
      have hfalse2 : s[i] = 46 → s[i + 1] = 46 → mailB s = false := fun ha hb => by
        have : ddB (s.take k) = true := by
          refine (dd_iff _).2 ⟨i, ?_, ?_, ?_⟩
          · rw [hwl]
            rcases Nat.lt_or_ge (i + 1) k with h | h
            · exact h
            · have : i + 1 = k := by omega
              subst this
              rw [hx] at hb; cases hb
          · rw [List.getElem_take]; exact ha
          · rw [List.getElem_take]; exact hb
        rw [hB, this]; rfl
      obtain ⟨c, hcc⟩ : ∃ c, s[i] = c := ⟨_, rfl⟩
      obtain ⟨c2, hcc2⟩ : ∃ c, s[i + 1] = c := ⟨_, rfl⟩
      rw [hcc] at hstep hfalse hfalse2
      rw [hcc2] at hstep hfalse2
      have ha := alnum_call c
      have hb := among_call c setL (by decide)
      have fin : okM c = true → ¬ (c = 46 ∧ c2 = 46) → KL2 = KL2 := fun _ _ => rfl
      by_cases hd46 : c = 46
      · subst hd46
        have ha' : PCall Tryz.prog 106 [.int .u8 46] (.bool false) := alnum_call 46
        have hb' : PCall Tryz.prog 128 [.int .u8 46, .str setL] (.bool true) := among_call 46 setL (by decide)
        unfold setL at hb'
        by_cases hc2 : (c2.toNat : Int) = 46
        · repeat' (first | ((first | refine Yl rfl fun K9 h9 => ?_ | refine Y1 rfl rfl fun K9 h9 => ?_ | refine Y2 rfl rfl fun K9 h9 => ?_ | (refine Ym ?_ ?_; (focus (simp [hcc, hcc2, ei, hc2]; done)); intro K9 h9) | ((first | refine Y4 rfl ?_ ?_ | refine Y5 rfl ?_ ?_); (focus (simp [hcc, hcc2, ei, hc2]; done)); intro K9 h9)); simp (disch := first | exact dd | fail) [hcc, hcc2, ei, hc2]; (try simp (disch := first | exact de | fail) only [X7]); ((first | refine Ap (ha') ?_ | refine Ap (hb') ?_ | skip) <;> ((repeat (refine Yz ?_)); (first | refine h9 _ _ (Yp ?_) | refine h9 _ _ (Yt ?_)); clear h9 K9))) | refine Yo ?_ | refine Y7 ?_ | (refine Y8 fun K hK => ?_) | refine Yq ?_ | (apply hK; clear hK K) | ((first | refine Yk (m := 0) (by decide +kernel) [] (by kernel_rfl) (by decide +kernel) ?_); simp only [List.replicate, XL]) | refine Ya ?_ | (refine Yb rfl ?_ ?_ <;> intro hcnd <;> (try simp at hcnd) <;> try exact dc) | refine Yc ?_ | (refine Yd ?_; simp only [X0, Nat.reduceBEq]) | (refine Ye ?_; refine Yf ?_) | (refine Yn ?_ ?_; (focus (simp [hcc, hcc2, ei, hc2]; done)); refine Yp ?_) | ((first | refine Yi rfl ?_ ?_ | refine Yj rfl ?_ ?_); (focus (simp [hcc, hcc2, ei, hc2]; done)); refine Yt ?_) | refine Yg ?_ | (simp only [X0, Nat.reduceBEq]) | clear hK K)
          rw [no (hfalse2 rfl (u46.1 hc2))]
          simp
          exact .pure (by simp)
        · repeat' (first | ((first | refine Yl rfl fun K9 h9 => ?_ | refine Y1 rfl rfl fun K9 h9 => ?_ | refine Y2 rfl rfl fun K9 h9 => ?_ | (refine Ym ?_ ?_; (focus (simp [hcc, hcc2, ei, hc2]; done)); intro K9 h9) | ((first | refine Y4 rfl ?_ ?_ | refine Y5 rfl ?_ ?_); (focus (simp [hcc, hcc2, ei, hc2]; done)); intro K9 h9)); simp (disch := first | exact dd | fail) [hcc, hcc2, ei, hc2]; (try simp (disch := first | exact de | fail) only [X7]); ((first | refine Ap (ha') ?_ | refine Ap (hb') ?_ | skip) <;> ((repeat (refine Yz ?_)); (first | refine h9 _ _ (Yp ?_) | refine h9 _ _ (Yt ?_)); clear h9 K9))) | refine Yo ?_ | refine Y7 ?_ | (refine Y8 fun K hK => ?_) | refine Yq ?_ | (apply hK; clear hK K) | ((first | refine Yk (m := 0) (by decide +kernel) [] (by kernel_rfl) (by decide +kernel) ?_); simp only [List.replicate, XL]) | refine Ya ?_ | (refine Yb rfl ?_ ?_ <;> intro hcnd <;> (try simp at hcnd) <;> try exact dc) | refine Yc ?_ | (refine Yd ?_; simp only [X0, Nat.reduceBEq]) | (refine Ye ?_; refine Yf ?_) | (refine Yn ?_ ?_; (focus (simp [hcc, hcc2, ei, hc2]; done)); refine Yp ?_) | ((first | refine Yi rfl ?_ ?_ | refine Yj rfl ?_ ?_); (focus (simp [hcc, hcc2, ei, hc2]; done)); refine Yt ?_) | refine Yg ?_ | (simp only [X0, Nat.reduceBEq]) | clear hK K)
          refine hL2 (i + 1) _ _ (hstep (by decide) (fun h => hc2 (u46.2 h.2))) (by omega) ?_
          exact Yr [] (by simp [rowsOver])
      have hd46' : ¬ (c.toNat : Int) = 46 := fun e => hd46 (u46.1 e)
      cases hc1 : okB c <;> rw [hc1] at ha
      · by_cases hm : c ∈ setL
        · rw [decide_eq_true hm] at hb
          unfold setL at hb
          repeat' (first | ((first | refine Yl rfl fun K9 h9 => ?_ | refine Y1 rfl rfl fun K9 h9 => ?_ | refine Y2 rfl rfl fun K9 h9 => ?_ | (refine Ym ?_ ?_; (focus (simp [hcc, hd46']; done)); intro K9 h9) | ((first | refine Y4 rfl ?_ ?_ | refine Y5 rfl ?_ ?_); (focus (simp [hcc, hd46']; done)); intro K9 h9)); simp (disch := first | exact dd | fail) [hcc, hd46']; (try simp (disch := first | exact de | fail) only [X7]); ((first | refine Ap ha ?_ | refine Ap hb ?_ | skip) <;> ((repeat (refine Yz ?_)); (first | refine h9 _ _ (Yp ?_) | refine h9 _ _ (Yt ?_)); clear h9 K9))) | refine Yo ?_ | refine Y7 ?_ | (refine Y8 fun K hK => ?_) | refine Yq ?_ | (apply hK; clear hK K) | ((first | refine Yk (m := 0) (by decide +kernel) [] (by kernel_rfl) (by decide +kernel) ?_); simp only [List.replicate, XL]) | refine Ya ?_ | (refine Yb rfl ?_ ?_ <;> intro hcnd <;> (try simp at hcnd) <;> try exact dc) | refine Yc ?_ | (refine Yd ?_; simp only [X0, Nat.reduceBEq]) | (refine Ye ?_; refine Yf ?_) | (refine Yn ?_ ?_; (focus (simp [hcc, hd46']; done)); refine Yp ?_) | ((first | refine Yi rfl ?_ ?_ | refine Yj rfl ?_ ?_); (focus (simp [hcc, hd46']; done)); refine Yt ?_) | refine Yg ?_ | (simp only [X0, Nat.reduceBEq]) | clear hK K)
          refine hL2 (i + 1) _ _ (hstep (by simp [okM, hm]) (fun h => hd46 h.1)) (by omega) ?_
          exact Yr [] (by simp [rowsOver])
        · rw [decide_eq_false hm] at hb
          have hno := no (hfalse (by simp [okM, hc1, hm]))
          unfold setL at hb
          repeat' (first | ((first | refine Yl rfl fun K9 h9 => ?_ | refine Y1 rfl rfl fun K9 h9 => ?_ | refine Y2 rfl rfl fun K9 h9 => ?_ | (refine Ym ?_ ?_; (focus (simp [hcc, hd46']; done)); intro K9 h9) | ((first | refine Y4 rfl ?_ ?_ | refine Y5 rfl ?_ ?_); (focus (simp [hcc, hd46']; done)); intro K9 h9)); simp (disch := first | exact dd | fail) [hcc, hd46']; (try simp (disch := first | exact de | fail) only [X7]); ((first | refine Ap ha ?_ | refine Ap hb ?_ | skip) <;> ((repeat (refine Yz ?_)); (first | refine h9 _ _ (Yp ?_) | refine h9 _ _ (Yt ?_)); clear h9 K9))) | refine Yo ?_ | refine Y7 ?_ | (refine Y8 fun K hK => ?_) | refine Yq ?_ | (apply hK; clear hK K) | ((first | refine Yk (m := 0) (by decide +kernel) [] (by kernel_rfl) (by decide +kernel) ?_); simp only [List.replicate, XL]) | refine Ya ?_ | (refine Yb rfl ?_ ?_ <;> intro hcnd <;> (try simp at hcnd) <;> try exact dc) | refine Yc ?_ | (refine Yd ?_; simp only [X0, Nat.reduceBEq]) | (refine Ye ?_; refine Yf ?_) | (refine Yn ?_ ?_; (focus (simp [hcc, hd46']; done)); refine Yp ?_) | ((first | refine Yi rfl ?_ ?_ | refine Yj rfl ?_ ?_); (focus (simp [hcc, hd46']; done)); refine Yt ?_) | refine Yg ?_ | (simp only [X0, Nat.reduceBEq]) | clear hK K)
          rw [hno]
          simp
          exact .pure (by simp)
      · repeat' (first | ((first | refine Yl rfl fun K9 h9 => ?_ | refine Y1 rfl rfl fun K9 h9 => ?_ | refine Y2 rfl rfl fun K9 h9 => ?_ | (refine Ym ?_ ?_; (focus (simp [hcc, hd46']; done)); intro K9 h9) | ((first | refine Y4 rfl ?_ ?_ | refine Y5 rfl ?_ ?_); (focus (simp [hcc, hd46']; done)); intro K9 h9)); simp (disch := first | exact dd | fail) [hcc, hd46']; (try simp (disch := first | exact de | fail) only [X7]); ((first | refine Ap ha ?_ | skip) <;> ((repeat (refine Yz ?_)); (first | refine h9 _ _ (Yp ?_) | refine h9 _ _ (Yt ?_)); clear h9 K9))) | refine Yo ?_ | refine Y7 ?_ | (refine Y8 fun K hK => ?_) | refine Yq ?_ | (apply hK; clear hK K) | ((first | refine Yk (m := 0) (by decide +kernel) [] (by kernel_rfl) (by decide +kernel) ?_); simp only [List.replicate, XL]) | refine Ya ?_ | (refine Yb rfl ?_ ?_ <;> intro hcnd <;> (try simp at hcnd) <;> try exact dc) | refine Yc ?_ | (refine Yd ?_; simp only [X0, Nat.reduceBEq]) | (refine Ye ?_; refine Yf ?_) | (refine Yn ?_ ?_; (focus (simp [hcc, hd46']; done)); refine Yp ?_) | ((first | refine Yi rfl ?_ ?_ | refine Yj rfl ?_ ?_); (focus (simp [hcc, hd46']; done)); refine Yt ?_) | refine Yg ?_ | (simp only [X0, Nat.reduceBEq]) | clear hK K)
        refine hL2 (i + 1) _ _ (hstep (by simp [okM, hc1]) (fun h => hd46 h.1)) (by omega) ?_
        exact Yr [] (by simp [rowsOver])
    · obtain rfl : i = k := by omega
      have hyes : mailB s = true := by
        have q1 : (s.take i).all okM = true := all_true fun j hj => by
          rw [List.getElem_take]
          exact (hall2 j (by omega) (by omega)).1
        have q2 : ddB (s.take i) = false := by
          cases h : ddB (s.take i) with
          | false => rfl
          | true =>
            exfalso
            obtain ⟨j, hj, h8, h9⟩ := (dd_iff _).1 h
            rw [List.getElem_take] at h8 h9
            refine (hall2 j (by omega) (by omega)).2 ⟨h8, ?_⟩
            rw [List.getD_eq_getElem?_getD, List.getElem?_eq_getElem (by omega)]
            exact h9
        rw [hB, q1, q2]; rfl
      repeat' (first | ((first | refine Yl rfl fun K9 h9 => ?_ | refine Y1 rfl rfl fun K9 h9 => ?_ | refine Y2 rfl rfl fun K9 h9 => ?_ | (refine Ym ?_ ?_; (focus (simp [ek, List.take_of_length_le]; done)); intro K9 h9) | ((first | refine Y4 rfl ?_ ?_ | refine Y5 rfl ?_ ?_); (focus (simp [ek, List.take_of_length_le]; done)); intro K9 h9)); simp (disch := first | exact dd | fail) [ek, List.take_of_length_le]; (try simp (disch := first | exact de | fail) only [X7]); ((repeat (refine Yz ?_)); (first | refine h9 _ _ (Yp ?_) | refine h9 _ _ (Yt ?_)); clear h9 K9)) | refine Yo ?_ | refine Y7 ?_ | (refine Y8 fun K hK => ?_) | refine Yq ?_ | (apply hK; clear hK K) | ((first | refine Yk (m := 0) (by decide +kernel) [] (by kernel_rfl) (by decide +kernel) ?_); simp only [List.replicate, XL]) | refine Ya ?_ | (refine Yb rfl ?_ ?_ <;> intro hcnd <;> (try simp at hcnd) <;> try exact dc) | refine Yc ?_ | (refine Yd ?_; simp only [X0, Nat.reduceBEq]) | (refine Ye ?_; refine Yf ?_) | (refine Yn ?_ ?_; (focus (simp [ek, List.take_of_length_le]; done)); refine Yp ?_) | ((first | refine Yi rfl ?_ ?_ | refine Yj rfl ?_ ?_); (focus (simp [ek, List.take_of_length_le]; done)); refine Yt ?_) | refine Yg ?_ | (simp only [X0, Nat.reduceBEq]) | clear hK K)
      rw [partsV, if_pos hyes, hbef, haft]
      simp [List.take_of_length_le]
      exact .pure (by simp)
  · unfold partsV; split <;> simp
end Go.Proofs.YtcfmanhblonjeaaGreatDoor.Ho
namespace Go.Proofs.YtcfmanhblonjeaaGreatDoor.Ho
open Go.VS Go.Hst
set_option linter.all false
set_option maxRecDepth 100000
attribute [local irreducible] arun arunD arunU AWp aend
theorem rmail_call (s : List UInt8) (hs : s.length ≤ 1000000) : PCall Tryz.prog 84 [.str s] (.bool (mailB s)) := by
  refine pcall_body Tryz.func84 rfl Tryz.call84 ?_ ?_
  rotate_left 1
  refine awp_slots (s' := (.str s : V) :: zJ 12) rfl ?_; dsimp only [zJ]
  have hc := parts_call s hs
  unfold partsV at hc
  cases h : mailB s
  · rw [if_neg (by simp [h])] at hc
    repeat' (first | (refine Yl rfl fun K9 h9 => ?_; simp (disch := first | exact dd | fail); (try simp (disch := first | exact de | fail) only [X7]); ((first | refine Ap hc ?_ | skip) <;> ((repeat (refine Yz ?_)); (first | refine h9 _ _ (Yp ?_)); clear h9 K9))) | refine Yo ?_ | (refine Y8 fun K hK => ?_) | refine Yq ?_ | (apply hK; clear hK K) | (refine Ye ?_; refine Yf ?_) | refine Yg ?_ | (simp only [X0, Nat.reduceBEq]) | clear hK K)
    exact .pure .bool
  · rw [if_pos h] at hc
    repeat' (first | (refine Yl rfl fun K9 h9 => ?_; simp (disch := first | exact dd | fail); (try simp (disch := first | exact de | fail) only [X7]); ((first | refine Ap hc ?_ | skip) <;> ((repeat (refine Yz ?_)); (first | refine h9 _ _ (Yp ?_)); clear h9 K9))) | refine Yo ?_ | (refine Y8 fun K hK => ?_) | refine Yq ?_ | (apply hK; clear hK K) | (refine Ye ?_; refine Yf ?_) | refine Yg ?_ | (simp only [X0, Nat.reduceBEq]) | clear hK K)
    exact .pure .bool
  · exact .bool

theorem rmmatch_call (a b : List UInt8) (hl1 : a.length ≤ 1000000) (hl2 : b.length ≤ 1000000) : PCall Tryz.prog 85 [.str a, .str b] (.bool (mmatchB a b)) := by
  refine pcall_body Tryz.func85 rfl Tryz.call85 ?_ ?_
  rotate_left 1
  refine awp_slots (s' := (.str a : V) :: (.str b : V) :: zJ 35) rfl ?_; dsimp only [zJ]
  have ha := aft_len 64 a
  have hb := aft_len 64 b
  have hc1 := parts_call a hl1
  have hc2 := parts_call b hl2
  have hc5 := alike_call (aftC 64 a) (aftC 64 b) (by omega) (by omega)
  unfold partsV at hc1 hc2
  unfold mmatchB
  cases h1 : mailB a <;> simp only [h1, if_true, if_false, Bool.false_eq_true] at hc1
  · cases h2 : mailB b <;> simp only [h2, if_true, if_false, Bool.false_eq_true] at hc2
    · repeat' (first | ((first | refine Yl rfl fun K9 h9 => ?_ | (refine Ym ?_ ?_; (focus (simp; done)); intro K9 h9)); simp (disch := first | exact dd | fail); (try simp (disch := first | exact de | fail) only [X7]); ((first | refine Ap hc1 ?_ | refine Ap hc2 ?_ | skip) <;> ((repeat (refine Yz ?_)); (first | refine h9 _ _ (Yp ?_)); clear h9 K9))) | refine Yo ?_ | (refine Y8 fun K hK => ?_) | refine Yq ?_ | (apply hK; clear hK K) | (refine Ye ?_; refine Yf ?_) | (refine Yn ?_ ?_; (focus (simp; done)); refine Yp ?_) | refine Yg ?_ | (simp only [X0, Nat.reduceBEq]) | clear hK K)
      exact .pure .bool
    · repeat' (first | ((first | refine Yl rfl fun K9 h9 => ?_ | (refine Ym ?_ ?_; (focus (simp; done)); intro K9 h9)); simp (disch := first | exact dd | fail); (try simp (disch := first | exact de | fail) only [X7]); ((first | refine Ap hc1 ?_ | refine Ap hc2 ?_ | skip) <;> ((repeat (refine Yz ?_)); (first | refine h9 _ _ (Yp ?_)); clear h9 K9))) | refine Yo ?_ | (refine Y8 fun K hK => ?_) | refine Yq ?_ | (apply hK; clear hK K) | (refine Ye ?_; refine Yf ?_) | (refine Yn ?_ ?_; (focus (simp; done)); refine Yp ?_) | refine Yg ?_ | (simp only [X0, Nat.reduceBEq]) | clear hK K)
      exact .pure .bool
  cases h2 : mailB b <;> simp only [h2, if_true, if_false, Bool.false_eq_true] at hc2
  · repeat' (first | ((first | refine Yl rfl fun K9 h9 => ?_ | (refine Ym ?_ ?_; (focus (simp; done)); intro K9 h9)); simp (disch := first | exact dd | fail); (try simp (disch := first | exact de | fail) only [X7]); ((first | refine Ap hc1 ?_ | refine Ap hc2 ?_ | skip) <;> ((repeat (refine Yz ?_)); (first | refine h9 _ _ (Yp ?_)); clear h9 K9))) | refine Yo ?_ | (refine Y8 fun K hK => ?_) | refine Yq ?_ | (apply hK; clear hK K) | (refine Ye ?_; refine Yf ?_) | (refine Yn ?_ ?_; (focus (simp; done)); refine Yp ?_) | refine Yg ?_ | (simp only [X0, Nat.reduceBEq]) | clear hK K)
    exact .pure .bool
  generalize befC 64 a = x at *
  generalize befC 64 b = y at *
  by_cases h3 : x = y
  · subst h3
    repeat' (first | ((first | refine Yl rfl fun K9 h9 => ?_ | (refine Ym ?_ ?_; (focus (simp; done)); intro K9 h9)); simp (disch := first | exact dd | fail); (try simp (disch := first | exact de | fail) only [X7]); ((first | refine Ap hc1 ?_ | refine Ap hc2 ?_ | refine Ap hc5 ?_ | skip) <;> ((repeat (refine Yz ?_)); (first | refine h9 _ _ (Yp ?_)); clear h9 K9))) | refine Yo ?_ | (refine Y8 fun K hK => ?_) | refine Yq ?_ | (apply hK; clear hK K) | (refine Ye ?_; refine Yf ?_) | (refine Yn ?_ ?_; (focus (simp; done)); refine Yp ?_) | refine Yg ?_ | (simp only [X0, Nat.reduceBEq]) | clear hK K)
    simp
    exact .pure .bool
  · have h3' : (x == y) = false := by simpa using h3
    repeat' (first | ((first | refine Yl rfl fun K9 h9 => ?_ | (refine Ym ?_ ?_; (focus (simp [h3, h3']; done)); intro K9 h9)); simp (disch := first | exact dd | fail) [h3, h3']; (try simp (disch := first | exact de | fail) only [X7]); ((first | refine Ap hc1 ?_ | refine Ap hc2 ?_ | refine Ap hc5 ?_ | skip) <;> ((repeat (refine Yz ?_)); (first | refine h9 _ _ (Yp ?_)); clear h9 K9))) | refine Yo ?_ | (refine Y8 fun K hK => ?_) | refine Yq ?_ | (apply hK; clear hK K) | (refine Ye ?_; refine Yf ?_) | (refine Yn ?_ ?_; (focus (simp [h3, h3']; done)); refine Yp ?_) | refine Yg ?_ | (simp only [X0, Nat.reduceBEq]) | clear hK K)
    rw [h3']
    exact .pure .bool
  · exact .bool

end Go.Proofs.YtcfmanhblonjeaaGreatDoor.Ho
