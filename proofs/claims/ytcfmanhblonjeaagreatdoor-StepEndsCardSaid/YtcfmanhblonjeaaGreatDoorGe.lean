/-
  CONTRACTS: the parts of SHA-256.
  CONTRACTS: one block of SHA-256.
  CONTRACTS: one block of SHA-256 in the reference.
  CONTRACTS: streams.
  CONTRACTS: the digest of a stream.
  Conditions: none.
-/
import Derived.Test.YtcfmanhblonjeaaGreatDoorTab
import Derived.Test.YtcfmanhblonjeaaGreatDoorGd
namespace Go.Proofs.YtcfmanhblonjeaaGreatDoor
open Go.VS
set_option linter.all false
attribute [local irreducible] arun arunD AWp aend
def u32s (l : List Int) : List V := l.map (V.int .u32)
@[simp] theorem u32s_length (l : List Int) : (u32s l).length = l.length := by simp [u32s]
@[simp] theorem u32s_pure (l : List Int) : ∀ x ∈ u32s l, x.Pure := by
  intro x hx
  obtain ⟨n, -, rfl⟩ := List.mem_map.1 hx
  exact .int
@[simp] theorem u32s_pures (l : List Int) : Pures (u32s l) := u32s_pure l
@[simp] theorem u32s_one (l : List Int) : ∀ x ∈ u32s l, x.one = true := by
  intro x hx
  obtain ⟨n, -, rfl⟩ := List.mem_map.1 hx
  rfl
def w32 (n : Int) : Int := IntKind.u32.wrap n
def rot (x : Int) (n : Nat) : Int := bits .or .u32 (x / 2 ^ n) (w32 (x * 2 ^ (32 - n)))
def kL : List Int := [1116352408, 1899447441, 3049323471, 3921009573, 961987163, 1508970993, 2453635748, 2870763221, 3624381080, 310598401, 607225278, 1426881987, 1925078388, 2162078206, 2614888103, 3248222580, 3835390401, 4022224774, 264347078, 604807628, 770255983, 1249150122, 1555081692, 1996064986, 2554220882, 2821834349, 2952996808, 3210313671, 3336571891, 3584528711, 113926993, 338241895, 666307205, 773529912, 1294757372, 1396182291, 1695183700, 1986661051, 2177026350, 2456956037, 2730485921, 2820302411, 3259730800, 3345764771, 3516065817, 3600352804, 4094571909, 275423344, 430227734, 506948616, 659060556, 883997877, 958139571, 1322822218, 1537002063, 1747873779, 1955562222, 2024104815, 2227730452, 2361852424, 2428436474, 2756734187, 3204031479, 3329325298]
def h0L : List Int := [1779033703, 3144134277, 1013904242, 2773480762, 1359893119, 2600822924, 528734635, 1541459225]

@[simp] theorem kL_length : kL.length = 64 := by simp [kL]
@[simp] theorem h0L_length : h0L.length = 8 := by simp [h0L]

end Go.Proofs.YtcfmanhblonjeaaGreatDoor
namespace Go.Proofs.YtcfmanhblonjeaaGreatDoor
open Go.VS
set_option linter.all false
attribute [local irreducible] arun arunD AWp aend
def bat (b : List UInt8) (i : Nat) : Int := ((b.getD i 0).toNat : Int)
def uat (l : List Int) (i : Nat) : Int := l.getD i 0
theorem bat_lt (b : List UInt8) (i : Nat) : 0 ≤ bat b i ∧ bat b i < 256 := by
  have : (b.getD i 0).toNat < 256 := UInt8.toNat_lt _
  unfold bat; omega
@[simp] theorem wrap_bat (b : List UInt8) (i : Nat) : IntKind.u32.wrap (bat b i) = bat b i := wrap_u32 (bat_lt b i).1 (by have := bat_lt b i; omega)
@[simp] theorem w32_def (n : Int) : IntKind.u32.wrap n = w32 n := rfl
theorem w32_eq (n : Int) : w32 n = n % 4294967296 := by simp [w32, IntKind.wrap, IntKind.signed, IntKind.bits]
@[simp] theorem w32_bat (b : List UInt8) (i : Nat) : w32 (bat b i) = bat b i := wrap_bat b i
def w16 (b : List UInt8) (i : Nat) : Int :=
  bits .or .u32 (bits .or .u32 (bits .or .u32 (w32 (bat b (4 * i) * 16777216)) (w32 (bat b (4 * i + 1) * 65536))) (w32 (bat b (4 * i + 2) * 256))) (bat b (4 * i + 3))
def wA (b : List UInt8) : Nat → List Int
  | 0 => List.replicate 64 0
  | i + 1 => (wA b i).set i (w16 b i)
def sig0 (x : Int) : Int := bits .xor .u32 (bits .xor .u32 (rot x 7) (rot x 18)) (x / 2 ^ 3)
def sig1 (x : Int) : Int := bits .xor .u32 (bits .xor .u32 (rot x 17) (rot x 19)) (x / 2 ^ 10)
def wB (b : List UInt8) : Nat → List Int
  | 0 => wA b 16
  | i + 1 => (wB b i).set (i + 16) (w32 (w32 (w32 (uat (wB b i) i + sig0 (uat (wB b i) (i + 1))) + uat (wB b i) (i + 9)) + sig1 (uat (wB b i) (i + 14))))
@[simp] theorem wA_length (b : List UInt8) (i : Nat) : (wA b i).length = 64 := by
  induction i with
  | zero => simp [wA]
  | succ i ih => simp [wA, ih]
@[simp] theorem wB_length (b : List UInt8) (i : Nat) : (wB b i).length = 64 := by
  induction i with
  | zero => simp [wB]
  | succ i ih => simp [wB, ih]

def sumE (e : Int) : Int := bits .xor .u32 (bits .xor .u32 (rot e 6) (rot e 11)) (rot e 25)
def sumA (a : Int) : Int := bits .xor .u32 (bits .xor .u32 (rot a 2) (rot a 13)) (rot a 22)
def cho (e f g : Int) : Int := bits .xor .u32 (bits .and .u32 e f) (bits .and .u32 (bits .xor .u32 4294967295 e) g)
def maj (a b c : Int) : Int := bits .xor .u32 (bits .xor .u32 (bits .and .u32 a b) (bits .and .u32 a c)) (bits .and .u32 b c)
def tmp1 (e f g h k w : Int) : Int := w32 (w32 (w32 (w32 (h + sumE e) + cho e f g) + k) + w)
def rnd (k w : Int) : List Int → List Int
  | [a, b, c, d, e, f, g, h] => [w32 (w32 (tmp1 e f g h k w + sumA a) + maj a b c), a, b, c, w32 (d + tmp1 e f g h k w), e, f, g]
  | l => l
def vAt (h W : List Int) : Nat → List Int
  | 0 => h
  | i + 1 => rnd (uat kL i) (uat W i) (vAt h W i)
theorem len8 {l : List Int} (h : l.length = 8) : ∃ a b c d e f g i, l = [a, b, c, d, e, f, g, i] := by
  match l, h with
  | [a, b, c, d, e, f, g, i], _ => exact ⟨a, b, c, d, e, f, g, i, rfl⟩
theorem rnd_length (k w : Int) (l : List Int) : (rnd k w l).length = l.length := by
  unfold rnd; split <;> rfl
@[simp] theorem vAt_length (h W : List Int) (i : Nat) : (vAt h W i).length = h.length := by
  induction i with
  | zero => rfl
  | succ i ih => rw [vAt, rnd_length, ih]
def fin (h : List Int) (v : List Int) : Nat → List Int
  | 0 => v
  | i + 1 => (fin h v i).set i (w32 (uat (fin h v i) i + uat h i))
@[simp] theorem fin_length (h v : List Int) (i : Nat) : (fin h v i).length = v.length := by
  induction i with
  | zero => rfl
  | succ i ih => simp [fin, ih]
def blk (h : List Int) (b : List UInt8) : List Int := fin h (vAt h (wB b 48) 64) 8
@[simp] theorem blk_length (h : List Int) (b : List UInt8) : (blk h b).length = h.length := by simp [blk]

theorem u32s_get (l : List Int) (i : Nat) (h : i < l.length) : (u32s l)[i]? = some (.int .u32 (uat l i)) := by
  simp [u32s, uat, h]
@[simp] theorem u32s_getElem (l : List Int) (i : Nat) (h : i < (u32s l).length) : (u32s l)[i] = .int .u32 (uat l i) := by
  have := u32s_get l i (by simpa using h)
  rw [List.getElem?_eq_getElem h] at this
  simpa using this
theorem u32s_set (l : List Int) (i : Nat) (n : Int) : u32s (l.set i n) = (u32s l).set i (.int .u32 n) := by simp [u32s]
end Go.Proofs.YtcfmanhblonjeaaGreatDoor
namespace Go.Proofs.YtcfmanhblonjeaaGreatDoor
open Go.VS
set_option linter.all false
attribute [local irreducible] arun arunD AWp aend
theorem bat_eq (b : List UInt8) (i : Nat) (h : i < b.length) : (((b[i]'h).toNat : Nat) : Int) = bat b i := by simp [bat, h]
theorem w32_assoc (t u m : Int) : w32 (t + w32 (u + m)) = w32 (w32 (t + u) + m) := by simp only [w32_eq]; omega
theorem w32_comm (t u : Int) : w32 (t + u) = w32 (u + t) := by rw [Int.add_comm]
theorem uat_get (l : List Int) (i : Nat) (h : i < l.length) : l[i] = uat l i := by simp [uat, h]

theorem fin8 (a0 a1 a2 a3 a4 a5 a6 a7 v0 v1 v2 v3 v4 v5 v6 v7 : Int) : fin [a0, a1, a2, a3, a4, a5, a6, a7] [v0, v1, v2, v3, v4, v5, v6, v7] 8 =
    [w32 (v0 + a0), w32 (v1 + a1), w32 (v2 + a2), w32 (v3 + a3), w32 (v4 + a4), w32 (v5 + a5), w32 (v6 + a6), w32 (v7 + a7)] := by
  simp [fin, uat]

set_option maxRecDepth 100000 in
set_option maxHeartbeats 4000000 in
theorem rround_call (h : List Int) (b : List UInt8) (hh : h.length = 8) (hb : b.length = 64) : PCall Tryz.prog 135 [.sl 8 (u32s h), .str b] (.sl 8 (u32s (blk h b))) := by
  refine pcall_body Tryz.func135 rfl Tryz.call135 ?_ ?_
  rotate_left 1
  refine awp_slots (s' := (.sl 8 (u32s h) : V) :: (.str b : V) :: zJ 264) rfl ?_; dsimp only [zJ]
  repeat' (first | ((first | refine Y0 rfl fun K9 h9 => ?_ | refine Y1 rfl rfl fun K9 h9 => ?_ | refine Y2 rfl rfl fun K9 h9 => ?_); simp (disch := first | exact dd | fail); (try simp (disch := first | exact de | fail) only [X7]); ((repeat (refine Yz ?_)); (first | refine h9 _ _ (Ys ?_) | refine h9 _ _ (Yt ?_)); clear h9 K9)) | refine Y6 ?_ | refine Y7 ?_ | (refine Y8 fun K hK => ?_) | refine Y9 ?_ | (apply hK; clear hK K) | ((first | refine Yk (m := 0) (by decide +kernel) [] (by kernel_rfl) (by decide +kernel) ?_ | refine Yk (m := 1) (by decide +kernel) [] (by kernel_rfl) (by decide +kernel) ?_ | refine Yk (m := 4) (by decide +kernel) [] (by kernel_rfl) (by decide +kernel) ?_); simp only [List.replicate, XL]) | refine Ya ?_ | (refine Yb rfl ?_ ?_ <;> intro hcnd <;> (try simp at hcnd) <;> try exact dc) | refine Yc ?_ | (refine Yd ?_; simp only [X0, Nat.reduceBEq]) | (refine Ye ?_; refine Yf ?_) | refine Yg ?_ | (simp only [X0, Nat.reduceBEq]) | clear hK K)
  · refine awp_countU (fun i => (zN 4 (some V.junk :: zN 2 (some (V.int .i64 i) :: zS 258 [])))) (fun i => [.live (u32s kL), .live (u32s (wA b i))]) 16 ?_ fun i hi KL hL => ?_
    · dsimp only [ups, zN, zS]
      exact Yr [some 0, some 1] (by simp [rowsOver, wA, u32s, List.replicate, kL])
    · dsimp only [ups, zN, zS]
      rcases Nat.lt_or_ge i 16 with hi | hi
      · have e0 : (4 * (i : Int)).toNat = 4 * i := by omega
        have e1 : (4 * (i : Int) + 1).toNat = 4 * i + 1 := by omega
        have e2 : (4 * (i : Int) + 2).toNat = 4 * i + 2 := by omega
        have e3 : (4 * (i : Int) + 3).toNat = 4 * i + 3 := by omega
        repeat' (first | ((first | refine Y0 rfl fun K9 h9 => ?_ | refine Y1 rfl rfl fun K9 h9 => ?_ | refine Y2 rfl rfl fun K9 h9 => ?_); simp (disch := first | exact dd | fail) [hb, bat_eq, e0, e1, e2, e3]; (try simp (disch := first | exact de | fail) only [X7]); ((repeat (refine Yz ?_)); (first | refine h9 _ _ (Ys ?_) | refine h9 _ _ (Yt ?_)); clear h9 K9)) | refine Y6 ?_ | refine Y7 ?_ | (refine Y8 fun K hK => ?_) | refine Y9 ?_ | (apply hK; clear hK K) | ((first | refine Yk (m := 0) (by decide +kernel) [] (by kernel_rfl) (by decide +kernel) ?_ | refine Yk (m := 1) (by decide +kernel) [] (by kernel_rfl) (by decide +kernel) ?_ | refine Yk (m := 4) (by decide +kernel) [] (by kernel_rfl) (by decide +kernel) ?_); simp only [List.replicate, XL]) | refine Ya ?_ | (refine Yb rfl ?_ ?_ <;> intro hcnd <;> (try simp at hcnd) <;> try exact dc) | refine Yc ?_ | (refine Yd ?_; simp only [X0, Nat.reduceBEq]) | (refine Ye ?_; refine Yf ?_) | refine Yg ?_ | (simp only [X0, Nat.reduceBEq]) | clear hK K)
        refine hL _ _ hi ?_
        exact Yr [some 0, some 1] (by simp [rowsOver, wA, w16, ← u32s_set])
      · obtain rfl : i = 16 := by omega
        repeat' (first | ((first | refine Y0 rfl fun K9 h9 => ?_ | refine Y1 rfl rfl fun K9 h9 => ?_ | refine Y2 rfl rfl fun K9 h9 => ?_); simp (disch := first | exact dd | fail); (try simp (disch := first | exact de | fail) only [X7]); ((repeat (refine Yz ?_)); (first | refine h9 _ _ (Ys ?_) | refine h9 _ _ (Yt ?_)); clear h9 K9)) | refine Y6 ?_ | refine Y7 ?_ | (refine Y8 fun K hK => ?_) | refine Y9 ?_ | (apply hK; clear hK K) | ((first | refine Yk (m := 0) (by decide +kernel) [] (by kernel_rfl) (by decide +kernel) ?_ | refine Yk (m := 1) (by decide +kernel) [] (by kernel_rfl) (by decide +kernel) ?_ | refine Yk (m := 4) (by decide +kernel) [] (by kernel_rfl) (by decide +kernel) ?_); simp only [List.replicate, XL]) | refine Ya ?_ | (refine Yb rfl ?_ ?_ <;> intro hcnd <;> (try simp at hcnd) <;> try exact dc) | refine Yc ?_ | (refine Yd ?_; simp only [X0, Nat.reduceBEq]) | (refine Ye ?_; refine Yf ?_) | refine Yg ?_ | (simp only [X0, Nat.reduceBEq]) | clear hK K)
        refine awp_countU (fun i => (none :: some V.junk :: zN 2 (some V.junk :: zN 2 (some V.junk :: some (V.int .i64 (i + 16)) :: zS 257 [])))) (fun i => [.live (u32s kL), .live (u32s (wB b i))]) 48 ?_ fun i hi KL hL => ?_
        · dsimp only [ups, zN, zS]
          exact Yr [some 0, some 1] (by simp [rowsOver, wB])
        · dsimp only [ups, zN, zS]
          rcases Nat.lt_or_ge i 48 with hi | hi
          · have e0 : ((i : Int) + 16 - 15).toNat = i + 1 := by omega
            have e1 : ((i : Int) + 16 - 2).toNat = i + 14 := by omega
            have e2 : ((i : Int) + 16 - 16).toNat = i := by omega
            have e3 : ((i : Int) + 16 - 7).toNat = i + 9 := by omega
            have e4 : ((i : Int) + 16).toNat = i + 16 := by omega
            repeat' (first | ((first | refine Y0 rfl fun K9 h9 => ?_ | refine Y1 rfl rfl fun K9 h9 => ?_ | refine Y2 rfl rfl fun K9 h9 => ?_); simp (disch := first | exact dd | fail) [u32s_get, e0, e1, e2, e3, e4]; (try simp (disch := first | exact de | fail) only [X7]); ((repeat (refine Yz ?_)); (first | refine h9 _ _ (Ys ?_) | refine h9 _ _ (Yt ?_)); clear h9 K9)) | refine Y6 ?_ | refine Y7 ?_ | (refine Y8 fun K hK => ?_) | refine Y9 ?_ | (apply hK; clear hK K) | ((first | refine Yk (m := 0) (by decide +kernel) [] (by kernel_rfl) (by decide +kernel) ?_ | refine Yk (m := 1) (by decide +kernel) [] (by kernel_rfl) (by decide +kernel) ?_ | refine Yk (m := 4) (by decide +kernel) [] (by kernel_rfl) (by decide +kernel) ?_); simp only [List.replicate, XL]) | refine Ya ?_ | (refine Yb rfl ?_ ?_ <;> intro hcnd <;> (try simp at hcnd) <;> try exact dc) | refine Yc ?_ | (refine Yd ?_; simp only [X0, Nat.reduceBEq]) | (refine Ye ?_; refine Yf ?_) | refine Yg ?_ | (simp only [X0, Nat.reduceBEq]) | clear hK K)
            refine hL _ _ hi ?_
            exact Yr [some 0, some 1] (by simp [rowsOver, wB, sig0, sig1, rot, ← u32s_set, List.replicate])
          · obtain rfl : i = 48 := by omega
            obtain ⟨a0, a1, a2, a3, a4, a5, a6, a7, rfl⟩ := len8 hh
            rw [show u32s [a0, a1, a2, a3, a4, a5, a6, a7] = [.int .u32 a0, .int .u32 a1, .int .u32 a2, .int .u32 a3, .int .u32 a4, .int .u32 a5, .int .u32 a6, .int .u32 a7] from rfl]
            repeat' (first | ((first | refine Y0 rfl fun K9 h9 => ?_ | refine Y1 rfl rfl fun K9 h9 => ?_ | refine Y2 rfl rfl fun K9 h9 => ?_); simp (disch := first | exact dd | fail); (try simp (disch := first | exact de | fail) only [X7]); ((repeat (refine Yz ?_)); (first | refine h9 _ _ (Ys ?_) | refine h9 _ _ (Yt ?_)); clear h9 K9)) | refine Y6 ?_ | refine Y7 ?_ | (refine Y8 fun K hK => ?_) | refine Y9 ?_ | (apply hK; clear hK K) | ((first | refine Yk (m := 0) (by decide +kernel) [] (by kernel_rfl) (by decide +kernel) ?_ | refine Yk (m := 1) (by decide +kernel) [] (by kernel_rfl) (by decide +kernel) ?_ | refine Yk (m := 4) (by decide +kernel) [] (by kernel_rfl) (by decide +kernel) ?_); simp only [List.replicate, XL]) | refine Ya ?_ | (refine Yb rfl ?_ ?_ <;> intro hcnd <;> (try simp at hcnd) <;> try exact dc) | refine Yc ?_ | (refine Yd ?_; simp only [X0, Nat.reduceBEq]) | (refine Ye ?_; refine Yf ?_) | refine Yg ?_ | (simp only [X0, Nat.reduceBEq]) | clear hK K)
            refine awp_countU (fun i => (none :: some V.junk :: zN 2 (some V.junk :: zN 2 (zS 6 (some (V.int .u32 (uat (vAt [a0, a1, a2, a3, a4, a5, a6, a7] (wB b 48) i) 0)) :: some (V.int .u32 (uat (vAt [a0, a1, a2, a3, a4, a5, a6, a7] (wB b 48) i) 1)) :: some (V.int .u32 (uat (vAt [a0, a1, a2, a3, a4, a5, a6, a7] (wB b 48) i) 2)) :: some (V.int .u32 (uat (vAt [a0, a1, a2, a3, a4, a5, a6, a7] (wB b 48) i) 3)) :: some (V.int .u32 (uat (vAt [a0, a1, a2, a3, a4, a5, a6, a7] (wB b 48) i) 4)) :: some (V.int .u32 (uat (vAt [a0, a1, a2, a3, a4, a5, a6, a7] (wB b 48) i) 5)) :: some (V.int .u32 (uat (vAt [a0, a1, a2, a3, a4, a5, a6, a7] (wB b 48) i) 6)) :: some (V.int .u32 (uat (vAt [a0, a1, a2, a3, a4, a5, a6, a7] (wB b 48) i) 7)) :: some (V.int .i64 i) :: zS 244 [])))))
              (fun i => [.live (u32s kL), .live (u32s (wB b 48))]) 64 ?_ fun i hi KL hL => ?_
            · dsimp only [ups, zN, zS]
              exact Le.mk [some 0, some 1] (by simp [vAt, uat]) (rowsRen_of (by simp) (by simp [rowsOver])) (by simp)
            · dsimp only [ups, zN, zS]
              rcases Nat.lt_or_ge i 64 with hi | hi
              · obtain ⟨v0, v1, v2, v3, v4, v5, v6, v7, hv⟩ := len8 (l := vAt [a0, a1, a2, a3, a4, a5, a6, a7] (wB b 48) i) (by simp)
                have hv' : vAt [a0, a1, a2, a3, a4, a5, a6, a7] (wB b 48) (i + 1) = rnd (uat kL i) (uat (wB b 48) i) [v0, v1, v2, v3, v4, v5, v6, v7] := by rw [vAt, hv]
                rw [hv]
                simp only [uat, List.getD_cons_zero, List.getD_cons_succ]
                repeat' (first | ((first | refine Y0 rfl fun K9 h9 => ?_ | refine Y1 rfl rfl fun K9 h9 => ?_ | refine Y2 rfl rfl fun K9 h9 => ?_); simp (disch := first | exact dd | fail) [u32s_get, show (if IntKind.u32.signed = true then -1 else IntKind.u32.max) = 4294967295 from rfl]; (try simp (disch := first | exact de | fail) only [X7]); ((repeat (refine Yz ?_)); (first | refine h9 _ _ (Ys ?_) | refine h9 _ _ (Yt ?_)); clear h9 K9)) | refine Y6 ?_ | refine Y7 ?_ | (refine Y8 fun K hK => ?_) | refine Y9 ?_ | (apply hK; clear hK K) | ((first | refine Yk (m := 0) (by decide +kernel) [] (by kernel_rfl) (by decide +kernel) ?_ | refine Yk (m := 1) (by decide +kernel) [] (by kernel_rfl) (by decide +kernel) ?_ | refine Yk (m := 4) (by decide +kernel) [] (by kernel_rfl) (by decide +kernel) ?_); simp only [List.replicate, XL]) | refine Ya ?_ | (refine Yb rfl ?_ ?_ <;> intro hcnd <;> (try simp at hcnd) <;> try exact dc) | refine Yc ?_ | (refine Yd ?_; simp only [X0, Nat.reduceBEq]) | (refine Ye ?_; refine Yf ?_) | refine Yg ?_ | (simp only [X0, Nat.reduceBEq]) | clear hK K)
                refine hL _ _ hi ?_
                exact Le.mk [some 0, some 1] (by dsimp only [ups, zN, zS]; rw [hv']; simp [rnd, tmp1, sumE, sumA, cho, maj, rot, uat, w32_assoc]) (rowsRen_of (by simp) (by simp [rowsOver])) (by simp)
              · obtain rfl : i = 64 := by omega
                obtain ⟨v0, v1, v2, v3, v4, v5, v6, v7, hv⟩ := len8 (l := vAt [a0, a1, a2, a3, a4, a5, a6, a7] (wB b 48) 64) (by simp)
                rw [hv]
                simp only [uat, List.getD_cons_zero, List.getD_cons_succ]
                repeat' (first | ((first | refine Y0 rfl fun K9 h9 => ?_ | refine Y1 rfl rfl fun K9 h9 => ?_ | refine Y2 rfl rfl fun K9 h9 => ?_); simp (disch := first | exact dd | fail); (try simp (disch := first | exact de | fail) only [X7]); ((repeat (refine Yz ?_)); (first | refine h9 _ _ (Ys ?_) | refine h9 _ _ (Yt ?_)); clear h9 K9)) | refine Y6 ?_ | refine Y7 ?_ | (refine Y8 fun K hK => ?_) | refine Y9 ?_ | (apply hK; clear hK K) | ((first | refine Yk (m := 0) (by decide +kernel) [] (by kernel_rfl) (by decide +kernel) ?_ | refine Yk (m := 1) (by decide +kernel) [] (by kernel_rfl) (by decide +kernel) ?_ | refine Yk (m := 4) (by decide +kernel) [] (by kernel_rfl) (by decide +kernel) ?_); simp only [List.replicate, XL]) | refine Ya ?_ | (refine Yb rfl ?_ ?_ <;> intro hcnd <;> (try simp at hcnd) <;> try exact dc) | refine Yc ?_ | (refine Yd ?_; simp only [X0, Nat.reduceBEq]) | (refine Ye ?_; refine Yf ?_) | refine Yg ?_ | (simp only [X0, Nat.reduceBEq]) | clear hK K)
                simp [blk, hv, fin8, w32_comm]
                exact view_row (by simp [u32s]) (by simp) (u32s_pure _)
  · exact .sl
end Go.Proofs.YtcfmanhblonjeaaGreatDoor
namespace Go.Proofs.YtcfmanhblonjeaaGreatDoor
open Go.VS
set_option linter.all false
attribute [local irreducible] arun arunD AWp aend
def comp (h : List Int) (l : List UInt8) : Nat → List Int
  | 0 => h
  | k + 1 => blk (comp h l k) ((l.drop (64 * k)).take 64)
@[simp] theorem comp_length (h : List Int) (l : List UInt8) (k : Nat) : (comp h l k).length = h.length := by
  induction k with
  | zero => rfl
  | succ k ih => simp [comp, ih]
def hOf (l : List UInt8) : List Int := comp h0L l (l.length / 64)
@[simp] theorem hOf_length (l : List UInt8) : (hOf l).length = 8 := by simp [hOf]
section
variable {h h' : List Int} {a b c : V} {tl : List V}
end

theorem fz_map {id : Nat} {cs l : List V} (h : Pures l) : l.map (fz id cs) = l := by
  conv => rhs; rw [← List.map_id l]
  exact List.map_congr_left fun x hx => fz_pure (h x hx)

end Go.Proofs.YtcfmanhblonjeaaGreatDoor
namespace Go.Proofs.YtcfmanhblonjeaaGreatDoor
open Go.VS
set_option linter.all false
attribute [local irreducible] arun arunD AWp aend
def be8 (n j : Nat) : UInt8 := UInt8.ofNat (8 * n / 2 ^ (8 * (7 - j)))
def padZ (n : Nat) : Nat := (119 - n % 64) % 64
def padS (n : Nat) : List UInt8 := 128 :: List.replicate (padZ n) 0 ++ (List.range 8).map (be8 n)
def wbytes (x : Int) : List UInt8 := [UInt8.ofNat (x / 16777216 % 256).toNat, UInt8.ofNat (x / 65536 % 256).toNat, UInt8.ofNat (x / 256 % 256).toNat, UInt8.ofNat (x % 256).toNat]
def outB (h : List Int) : List UInt8 := h.flatMap wbytes
def shaS (l : List UInt8) : List UInt8 := outB (hOf (l ++ padS l.length))
theorem padS_length (n : Nat) : (padS n).length = 9 + padZ n := by simp [padS]; omega
theorem pad_dvd (n : Nat) : (n + (padS n).length) % 64 = 0 := by rw [padS_length, padZ]; omega

theorem bytes_full {l : List UInt8} {n : Nat} (h : l.length ≤ n) : List.take n (l.map byteV) = l.map byteV := List.take_of_length_le (by simpa using h)

theorem byteV_int {n : Int} (h0 : 0 ≤ n) (h1 : n < 256) : V.int .u8 n = byteV (UInt8.ofNat n.toNat) := by
  have : (UInt8.ofNat n.toNat).toNat = n.toNat := by simp; omega
  simp only [byteV, this, V.int.injEq, true_and]
  omega
theorem wrap_u8' (n : Int) : IntKind.u8.wrap n = n % 256 := by simp [IntKind.wrap, IntKind.signed, IntKind.bits]

theorem u8_int (n : Int) : V.int .u8 (IntKind.u8.wrap n) = byteV (UInt8.ofNat (n % 256).toNat) := by
  rw [wrap_u8', byteV_int (by omega) (by omega)]
def ob (v : List Int) (i : Nat) : List UInt8 := (v.take i).flatMap wbytes
theorem ob_succ (v : List Int) (i : Nat) (h : i < v.length) : ob v (i + 1) = ob v i ++ wbytes (uat v i) := by
  rw [ob, List.take_succ_eq_append_getElem h, List.flatMap_append, uat_get v i h]; simp [ob]
theorem ob_length (v : List Int) : ∀ i, i ≤ v.length → (ob v i).length = 4 * i
  | 0, _ => rfl
  | i + 1, h => by rw [ob_succ v i (by omega), List.length_append, ob_length v i (by omega)]; simp [wbytes]; omega
theorem ob_all (v : List Int) (i : Nat) (h : v.length ≤ i) : ob v i = outB v := by rw [ob, List.take_of_length_le h, outB]

theorem be8_int (n j : Nat) (hj : j < 8) : V.int .u8 (IntKind.u8.wrap ((n : Int) * 8 / 2 ^ (8 * (7 - (j : Int))).toNat)) = byteV (be8 n j) := by
  have e : (8 * (7 - (j : Int))).toNat = 8 * (7 - j) := by omega
  have h2 : (n : Int) * 8 / 2 ^ (8 * (7 - j)) = ((8 * n / 2 ^ (8 * (7 - j)) : Nat) : Int) := by
    rw [Int.natCast_ediv]; simp [Int.mul_comm]
  rw [e, wrap_u8', h2, be8, byteV]
  simp

end Go.Proofs.YtcfmanhblonjeaaGreatDoor
