/-
  CONTRACTS: trees of the reference.
  CONTRACTS: keys and signatures of the reference's trees.
  Conditions: none.
-/
import Derived.Test.YtcfmanhblonjeaaGreatDoorGe
import Derived.Test.YtcfmanhblonjeaaGreatDoorGf
import Derived.Test.YtcfmanhblonjeaaGreatDoorGg
import Derived.Test.YtcfmanhblonjeaaGreatDoorTab
import Derived.Test.YtcfmanhblonjeaaGreatDoorGd
namespace Go.Proofs.YtcfmanhblonjeaaGreatDoor
open Go.VS
set_option linter.all false
set_option maxRecDepth 100000
attribute [local irreducible] arun arunD AWp aend shaS shaT
def rtV (seed : List UInt8) (h : Nat) : V := .agg [.str seed, .str (idS seed), .sl (h + 1) (lvVs seed h (h + 1))]
@[simp] theorem rtV_pure (seed : List UInt8) (h : Nat) : (rtV seed h).Pure := by simp [rtV]

set_option maxRecDepth 100000 in
set_option maxHeartbeats 4000000 in
theorem rgenerate_call (seed : List UInt8) (h : Nat) (hs : seed.length = 32) (hh : h ≤ 8) : PCall Tryz.prog 96 [.str seed, .int .i64 h] (.tup [rtV seed h, .int .i64 0]) := by
  refine pcall_body Tryz.func96 rfl Tryz.call96 ?_ ?_
  rotate_left 1
  refine awp_slots (s' := (.str seed : V) :: (.int .i64 h : V) :: zJ 93) rfl ?_; dsimp only [zJ]
  have hsl := shl_one h hh
  have h256 := pow_le_256 hh
  have hid := idS_length seed
  obtain ⟨p, hp⟩ : ∃ p, 2 ^ h = p := ⟨_, rfl⟩
  have hl0 : lvl (idS seed) seed h 0 = lv0 (idS seed) seed p := by rw [lvl, hp]
  rw [hp] at hsl h256
  have hsh := rshort_call [[73], seed] (by simp) (by simp; omega)
  rw [show shaT [[73], seed].flatten = idS seed by simp [idS]] at hsh
  repeat' (first | ((first | refine Y0 rfl fun K9 h9 => ?_ | refine Y1 rfl rfl fun K9 h9 => ?_ | refine Y2 rfl rfl fun K9 h9 => ?_ | (refine Y3 ?_ ?_; (focus (simp [hs]; done)); intro K9 h9) | ((first | refine Y4 rfl ?_ ?_ | refine Y5 rfl ?_ ?_); (focus (simp [hs]; done)); intro K9 h9)); simp (disch := first | exact dd | fail) [hs]; (try simp (disch := first | exact de | fail) only [X7]); ((first | refine acall_view hsh ⟨view_row rfl (by simp) (by simp), trivial⟩ .str ?_ | skip) <;> ((repeat (refine Yz ?_)); (first | refine h9 _ _ (Ys ?_) | refine h9 _ _ (Yt ?_)); clear h9 K9))) | refine Y6 ?_ | refine Y7 ?_ | (refine Y8 fun K hK => ?_) | refine Y9 ?_ | (apply hK; clear hK K) | ((first | refine Yk (m := 3) (by decide +kernel) [] (by kernel_rfl) (by decide +kernel) ?_); simp only [List.replicate, XL]) | refine Ya ?_ | (refine Yb rfl ?_ ?_ <;> intro hcnd <;> (try simp at hcnd) <;> try exact dc) | refine Yc ?_ | (refine Yd ?_; simp only [X0, Nat.reduceBEq]) | (refine Ye ?_; refine Yf ?_) | (refine Yh ?_ ?_; (focus (simp [hs]; done)); refine Ys ?_) | ((first | refine Yi rfl ?_ ?_ | refine Yj rfl ?_ ?_); (focus (simp [hs]; done)); refine Yt ?_) | refine Yg ?_ | (simp only [X0, Nat.reduceBEq]) | clear hK K)
  refine awp_countU (fun k => (zN 5 (some V.junk :: some (V.ref 1 0) :: some (V.osl 2 0 k 1) :: some (V.int .i64 k) :: zS 86 []))) (fun k => [.live [.str [], .str [], .nils], .live [.str seed, .str (idS seed), .nils], .live ((lv0 (idS seed) seed k).map V.str)]) p ?_ fun k hk KL hL => ?_
  · dsimp only [ups, zN, zS]
    exact Yr [some 0, some 2, none] (by simp [rowsOver, lv0])
  dsimp only [ups, zN, zS]
  have e4 : List.take k (List.map V.str (lv0 (idS seed) seed k)) = List.map V.str (lv0 (idS seed) seed k) := List.take_of_length_le (by simp)
  rcases Nat.lt_or_ge k p with hk | hk
  · have hpv := pubV_leaf (idS seed) seed k hid hs (by omega)
    have hop := ropublic_call (idS seed) seed k (by simp) (by omega)
    rw [hpv] at hop
    clear hpv
    repeat' (first | ((first | refine Y0 rfl fun K9 h9 => ?_ | refine Y1 rfl rfl fun K9 h9 => ?_ | refine Y2 rfl rfl fun K9 h9 => ?_ | (refine Y3 ?_ ?_; (focus (simp [hsl, e4]; done)); intro K9 h9) | ((first | refine Y4 rfl ?_ ?_ | refine Y5 rfl ?_ ?_); (focus (simp [hsl, e4]; done)); intro K9 h9)); simp (disch := first | exact dd | fail) [hsl, e4]; (try simp (disch := first | exact de | fail) only [X7]); ((first | refine Ap hop ?_ | skip) <;> ((repeat (refine Yz ?_)); (first | refine h9 _ _ (Ys ?_) | refine h9 _ _ (Yt ?_)); clear h9 K9))) | refine Y6 ?_ | refine Y7 ?_ | (refine Y8 fun K hK => ?_) | refine Y9 ?_ | (apply hK; clear hK K) | ((first | refine Yk (m := 3) (by decide +kernel) [] (by kernel_rfl) (by decide +kernel) ?_); simp only [List.replicate, XL]) | refine Ya ?_ | (refine Yb rfl ?_ ?_ <;> intro hcnd <;> (try simp at hcnd) <;> try exact dc) | refine Yc ?_ | (refine Yd ?_; simp only [X0, Nat.reduceBEq]) | (refine Ye ?_; refine Yf ?_) | (refine Yh ?_ ?_; (focus (simp [hsl, e4]; done)); refine Ys ?_) | ((first | refine Yi rfl ?_ ?_ | refine Yj rfl ?_ ?_); (focus (simp [hsl, e4]; done)); refine Yt ?_) | refine Yg ?_ | (simp only [X0, Nat.reduceBEq]) | clear hK K)
    refine hL _ _ hk ?_
    exact Yr [some 0, some 1, some 4] (by simp [rowsOver, lv0_succ])
  obtain rfl : k = p := by omega
  refine awp_freeze' 2 rfl (by simp) (by simp [fz, e4]; rfl) (by simp [fzRow, fz]; rfl) ?_
  repeat' (first | ((first | refine Y0 rfl fun K9 h9 => ?_ | refine Y1 rfl rfl fun K9 h9 => ?_ | refine Y2 rfl rfl fun K9 h9 => ?_ | (refine Y3 ?_ ?_; (focus (simp [hsl]; done)); intro K9 h9) | ((first | refine Y4 rfl ?_ ?_ | refine Y5 rfl ?_ ?_); (focus (simp [hsl]; done)); intro K9 h9)); simp (disch := first | exact dd | fail) [hsl]; (try simp (disch := first | exact de | fail) only [X7]); ((repeat (refine Yz ?_)); (first | refine h9 _ _ (Ys ?_) | refine h9 _ _ (Yt ?_)); clear h9 K9)) | refine Y6 ?_ | refine Y7 ?_ | (refine Y8 fun K hK => ?_) | refine Y9 ?_ | (apply hK; clear hK K) | ((first | refine Yk (m := 3) (by decide +kernel) [] (by kernel_rfl) (by decide +kernel) ?_); simp only [List.replicate, XL]) | refine Ya ?_ | (refine Yb rfl ?_ ?_ <;> intro hcnd <;> (try simp at hcnd) <;> try exact dc) | refine Yc ?_ | (refine Yd ?_; simp only [X0, Nat.reduceBEq]) | (refine Ye ?_; refine Yf ?_) | (refine Yh ?_ ?_; (focus (simp [hsl]; done)); refine Ys ?_) | ((first | refine Yi rfl ?_ ?_ | refine Yj rfl ?_ ?_); (focus (simp [hsl]; done)); refine Yt ?_) | refine Yg ?_ | (simp only [X0, Nat.reduceBEq]) | clear hK K)
  refine awp_countU (fun l => (some V.junk :: zN 4 (some V.junk :: none :: some (strsV (lvl (idS seed) seed h l)) :: zS 3 (some (V.int .i64 l) :: zS 83 [])))) (fun l => [.live [.str [], .str [], .nils], .live [.str seed, .str (idS seed), .osl 2 0 (l + 1) 1], .live (lvVs seed h (l + 1))]) h ?_ fun l hl KO hO => ?_
  · dsimp only [ups, zN, zS]
    exact Le.mk [some 0, some 1, some 4] (by simp [strsV, hl0]) (rowsRen_of (by simp) (by simp [rowsOver, rowRen_live, lvVs, strsV, hl0])) (by simp)
  dsimp only [ups, zN, zS]
  have e5 : List.take (l + 1) (lvVs seed h (l + 1)) = lvVs seed h (l + 1) := List.take_of_length_le (by simp)
  rcases Nat.lt_or_ge l h with hl | hl
  · have hlen := lvl_length (idS seed) seed h l (by omega)
    have h16 := lvl_16 (idS seed) seed h l
    have hpl : (lvl (idS seed) seed h l).length ≤ 256 := by rw [hlen]; exact pow_le_256 (by omega)
    have hvs := lvVs_succ seed h (l + 1)
    rw [show lvl (idS seed) seed h (l + 1) = nx (idS seed) l (lvl (idS seed) seed h l) ((lvl (idS seed) seed h l).length / 2) from rfl] at hvs hO
    have hol : (lvVs seed h (l + 1)).all V.one = true := by
      rw [List.all_eq_true]; intro x hx; obtain ⟨j, -, rfl⟩ := List.mem_map.1 hx; rfl
    have hvp := lvVs_pures seed h (l + 1)
    have hvl := lvVs_length seed h (l + 1)
    rw [hvs] at hO
    generalize lvl (idS seed) seed h l = L at *
    generalize lvVs seed h (l + 1) = Z at *
    unfold strsV
    repeat' (first | ((first | refine Y0 rfl fun K9 h9 => ?_ | refine Y1 rfl rfl fun K9 h9 => ?_ | refine Y2 rfl rfl fun K9 h9 => ?_ | (refine Y3 ?_ ?_; (focus (simp; done)); intro K9 h9) | ((first | refine Y4 rfl ?_ ?_ | refine Y5 rfl ?_ ?_); (focus (simp; done)); intro K9 h9)); simp (disch := first | exact dd | fail); (try simp (disch := first | exact de | fail) only [X7]); ((repeat (refine Yz ?_)); (first | refine h9 _ _ (Ys ?_) | refine h9 _ _ (Yt ?_)); clear h9 K9)) | refine Y6 ?_ | refine Y7 ?_ | (refine Y8 fun K hK => ?_) | refine Y9 ?_ | (apply hK; clear hK K) | ((first | refine Yk (m := 3) (by decide +kernel) [] (by kernel_rfl) (by decide +kernel) ?_); simp only [List.replicate, XL]) | refine Ya ?_ | (refine Yb rfl ?_ ?_ <;> intro hcnd <;> (try simp at hcnd) <;> try exact dc) | refine Yc ?_ | (refine Yd ?_; simp only [X0, Nat.reduceBEq]) | (refine Ye ?_; refine Yf ?_) | (refine Yh ?_ ?_; (focus (simp; done)); refine Ys ?_) | ((first | refine Yi rfl ?_ ?_ | refine Yj rfl ?_ ?_); (focus (simp; done)); refine Yt ?_) | refine Yg ?_ | (simp only [X0, Nat.reduceBEq]) | clear hK K)
    refine awp_countU (fun k => (some V.junk :: zN 4 (some V.junk :: zN 2 (zS 3 (none :: some (V.osl 3 0 k 1) :: some (V.int .i64 ((2 * k : Nat) : Int)) :: zS 81 []))))) (fun k => [.live [.str [], .str [], .nils], .live [.str seed, .str (idS seed), .osl 2 0 (l + 1) 1], .live Z, .live ((nx (idS seed) l L k).map V.str)]) (L.length / 2) ?_ fun k hk KL hL => ?_
    · dsimp only [ups, zN, zS]
      exact Yr [some 0, some 1, some 2, none] (by simp [rowsOver, rowRen_live, hvp, nx])
    dsimp only [ups, zN, zS]
    have e6 : List.take k (List.map V.str (nx (idS seed) l L k)) = List.map V.str (nx (idS seed) l L k) := List.take_of_length_le (by simp)
    rcases Nat.lt_or_ge k (L.length / 2) with hk | hk
    · have b1 : 2 * k < L.length := by omega
      have b2 : 2 * k + 1 < L.length := by omega
      have hn := nx_succ (idS seed) l L k
      rw [getD_get b1, getD_get b2] at hn
      have q1 := h16 _ (List.getElem_mem b1)
      have q2 := h16 _ (List.getElem_mem b2)
      have t1 : ((2 : Int) * (k : Int)).toNat = 2 * k := by omega
      have t2 : ((2 : Int) * (k : Int) + 1).toNat = 2 * k + 1 := by omega
      have t3 : ((2 : Int) * (k : Int)) / 2 = k := by omega
      have hps := rshort_call [[78], idS seed, b1S l, wbytes k, L[2 * k], L[2 * k + 1]] (by simp) (by simp; omega)
      rw [show shaT [[78], idS seed, b1S l, wbytes k, L[2 * k], L[2 * k + 1]].flatten = parS (idS seed) l k L[2 * k] L[2 * k + 1] by simp [parS]] at hps
      repeat' (first | ((first | refine Y0 rfl fun K9 h9 => ?_ | refine Y1 rfl rfl fun K9 h9 => ?_ | refine Y2 rfl rfl fun K9 h9 => ?_ | (refine Y3 ?_ ?_; (focus (simp [e6, t1, t2, t3]; done)); intro K9 h9) | ((first | refine Y4 rfl ?_ ?_ | refine Y5 rfl ?_ ?_); (focus (simp [e6, t1, t2, t3]; done)); intro K9 h9)); simp (disch := first | exact dd | fail) [e6, t1, t2, t3]; (try simp (disch := first | exact de | fail) only [X7]); ((first | refine Ap (rb4_call _) ?_ | refine Ap (rb1_call _) ?_ | refine acall_view hps ⟨view_row rfl (by simp) (by simp), trivial⟩ .str ?_ | skip) <;> ((repeat (refine Yz ?_)); (first | refine h9 _ _ (Ys ?_) | refine h9 _ _ (Yt ?_)); clear h9 K9))) | refine Y6 ?_ | refine Y7 ?_ | (refine Y8 fun K hK => ?_) | refine Y9 ?_ | (apply hK; clear hK K) | ((first | refine Yk (m := 3) (by decide +kernel) [] (by kernel_rfl) (by decide +kernel) ?_); simp only [List.replicate, XL]) | refine Ya ?_ | (refine Yb rfl ?_ ?_ <;> intro hcnd <;> (try simp at hcnd) <;> try exact dc) | refine Yc ?_ | (refine Yd ?_; simp only [X0, Nat.reduceBEq]) | (refine Ye ?_; refine Yf ?_) | (refine Yh ?_ ?_; (focus (simp [e6, t1, t2, t3]; done)); refine Ys ?_) | ((first | refine Yi rfl ?_ ?_ | refine Yj rfl ?_ ?_); (focus (simp [e6, t1, t2, t3]; done)); refine Yt ?_) | refine Yg ?_ | (simp only [X0, Nat.reduceBEq]) | clear hK K)
      refine hL _ _ hk ?_
      exact Yr [some 0, some 1, some 2, some 6] (by simp [rowsOver, rowRen_live, hvp, hn])
    obtain rfl : k = L.length / 2 := by omega
    refine awp_freeze' 3 rfl (by simp) (by simp [fz, e6]; rfl) (by simp [fzRow, fz, fz_map hvp]; rfl) ?_
    repeat' (first | ((first | refine Y0 rfl fun K9 h9 => ?_ | refine Y1 rfl rfl fun K9 h9 => ?_ | refine Y2 rfl rfl fun K9 h9 => ?_ | (refine Y3 ?_ ?_; (focus (simp [e5, hvl, hol]; done)); intro K9 h9) | ((first | refine Y4 rfl ?_ ?_ | refine Y5 rfl ?_ ?_); (focus (simp [e5, hvl, hol]; done)); intro K9 h9)); simp (disch := first | exact dd | fail) [e5, hvl, hol]; (try simp (disch := first | exact de | fail) only [X7]); ((repeat (refine Yz ?_)); (first | refine h9 _ _ (Ys ?_) | refine h9 _ _ (Yt ?_)); clear h9 K9)) | refine Y6 ?_ | refine Y7 ?_ | (refine Y8 fun K hK => ?_) | refine Y9 ?_ | (apply hK; clear hK K) | ((first | refine Yk (m := 3) (by decide +kernel) [] (by kernel_rfl) (by decide +kernel) ?_); simp only [List.replicate, XL]) | refine Ya ?_ | (refine Yb rfl ?_ ?_ <;> intro hcnd <;> (try simp at hcnd) <;> try exact dc) | refine Yc ?_ | (refine Yd ?_; simp only [X0, Nat.reduceBEq]) | (refine Ye ?_; refine Yf ?_) | (refine Yh ?_ ?_; (focus (simp [e5, hvl, hol]; done)); refine Ys ?_) | ((first | refine Yi rfl ?_ ?_ | refine Yj rfl ?_ ?_); (focus (simp [e5, hvl, hol]; done)); refine Yt ?_) | refine Yg ?_ | (simp only [X0, Nat.reduceBEq]) | clear hK K)
    refine hO _ _ hl ?_
    exact Le.mk [some 0, some 1, some 5] (by dsimp only [ups, zN, zS]; simp [strsV]) (rowsRen_of (by simp) (by simp [rowsOver, rowRen_live, hvp, strsV])) (by simp)
  obtain rfl : l = h := by omega
  refine awp_freeze' 2 rfl (lvVs_pures seed l (l + 1)) (by simp [fz, e5]; rfl) (by simp [fzRow, fz, e5]; rfl) ?_
  repeat' (first | ((first | refine Y0 rfl fun K9 h9 => ?_ | refine Y1 rfl rfl fun K9 h9 => ?_ | refine Y2 rfl rfl fun K9 h9 => ?_ | (refine Y3 ?_ ?_; (focus (simp; done)); intro K9 h9) | ((first | refine Y4 rfl ?_ ?_ | refine Y5 rfl ?_ ?_); (focus (simp; done)); intro K9 h9)); simp (disch := first | exact dd | fail); (try simp (disch := first | exact de | fail) only [X7]); ((repeat (refine Yz ?_)); (first | refine h9 _ _ (Ys ?_) | refine h9 _ _ (Yt ?_)); clear h9 K9)) | refine Y6 ?_ | refine Y7 ?_ | (refine Y8 fun K hK => ?_) | refine Y9 ?_ | (apply hK; clear hK K) | ((first | refine Yk (m := 3) (by decide +kernel) [] (by kernel_rfl) (by decide +kernel) ?_); simp only [List.replicate, XL]) | refine Ya ?_ | (refine Yb rfl ?_ ?_ <;> intro hcnd <;> (try simp at hcnd) <;> try exact dc) | refine Yc ?_ | (refine Yd ?_; simp only [X0, Nat.reduceBEq]) | (refine Ye ?_; refine Yf ?_) | (refine Yh ?_ ?_; (focus (simp; done)); refine Ys ?_) | ((first | refine Yi rfl ?_ ?_ | refine Yj rfl ?_ ?_); (focus (simp; done)); refine Yt ?_) | refine Yg ?_ | (simp only [X0, Nat.reduceBEq]) | clear hK K)
  simp [rtV]
  exact .pure (by simp)
  · simp
end Go.Proofs.YtcfmanhblonjeaaGreatDoor
namespace Go.Proofs.YtcfmanhblonjeaaGreatDoor
open Go.VS
set_option linter.all false
set_option maxRecDepth 100000
attribute [local irreducible] arun arunD AWp aend shaS shaT
theorem lvVs_get' (seed : List UInt8) (h k l : Nat) (hl : l < k) : (lvVs seed h k)[l]'(by simpa using hl) = .sl (lvl (idS seed) seed h l).length ((lvl (idS seed) seed h l).map V.str) := by
  have := lvVs_get seed h k l hl
  rw [List.getElem?_eq_getElem (by simpa using hl)] at this
  exact Option.some.inj this
theorem lvVs_top (seed : List UInt8) (h : Nat) : (lvVs seed h (h + 1))[h]'(by simp) = .sl 1 [.str (rootS (idS seed) seed h)] := by
  rw [lvVs_get' seed h (h + 1) h (by omega), lvl_top]; rfl

theorem keyOf_call (seed : List UInt8) (h : Nat) (hh : h ≤ 8) : PCall Tryz.prog 46 [rtV seed h] (keyV h (idS seed) (rootS (idS seed) seed h)) := by
  refine pcall_body Tryz.func46 rfl Tryz.call46 ?_ ?_
  rotate_left 1
  refine awp_slots (s' := (rtV seed h : V) :: zJ 18) rfl ?_; dsimp only [zJ]
  have hg := lvVs_top seed h
  unfold rtV
  repeat' (first | ((first | refine Y0 rfl fun K9 h9 => ?_ | refine Y1 rfl rfl fun K9 h9 => ?_ | refine Y2 rfl rfl fun K9 h9 => ?_); simp (disch := first | exact dd | fail) [hg]; (try simp (disch := first | exact de | fail) only [X7]); ((repeat (refine Yz ?_)); (first | refine h9 _ _ (Ys ?_) | refine h9 _ _ (Yt ?_)); clear h9 K9)) | refine Y6 ?_ | refine Y7 ?_ | (refine Y8 fun K hK => ?_) | refine Y9 ?_ | (apply hK; clear hK K) | ((first | refine Yk (m := 0) (by decide +kernel) [] (by kernel_rfl) (by decide +kernel) ?_); simp only [List.replicate, XL]) | (refine Ye ?_; refine Yf ?_) | refine Yg ?_ | (simp only [X0, Nat.reduceBEq]) | clear hK K)
  · simp [keyV]
    exact .pure (by simp)
  · simp

theorem tree_call (k : Int) (h : Nat) (hh : h ≤ 8) : PCall Tryz.prog 68 [.int .i64 k, .int .i64 h] (rtV (mseedS k) h) := by
  refine pcall_body Tryz.func68 rfl Tryz.call68 ?_ ?_
  rotate_left 1
  refine awp_slots (s' := (.int .i64 k : V) :: (.int .i64 h : V) :: zJ 13) rfl ?_; dsimp only [zJ]
  have hrg := rgenerate_call (mseedS k) h (by simp) hh
  unfold rtV at *
  repeat' (first | (refine Y0 rfl fun K9 h9 => ?_; simp (disch := first | exact dd | fail); (try simp (disch := first | exact de | fail) only [X7]); ((first | refine Ap (mseed_call _) ?_ | refine Ap hrg ?_ | skip) <;> ((repeat (refine Yz ?_)); (first | refine h9 _ _ (Ys ?_)); clear h9 K9))) | refine Y6 ?_ | (refine Y8 fun K hK => ?_) | refine Y9 ?_ | (apply hK; clear hK K) | (refine Ye ?_; refine Yf ?_) | refine Yg ?_ | (simp only [X0, Nat.reduceBEq]) | clear hK K)
  · simp
    exact .pure (by simp)
  · simp

end Go.Proofs.YtcfmanhblonjeaaGreatDoor
