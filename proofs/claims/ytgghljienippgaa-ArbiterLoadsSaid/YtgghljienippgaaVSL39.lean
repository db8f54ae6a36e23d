/- A list of 39 bytes is what its arbiter's bytes are. -/
import Derived.Test.YtgghljienippgaaVLp
namespace Go.VX.M17
set_option linter.unusedVariables false
theorem list39 : ∀ (ns : List Int), ns.length = 39 → ns = [nth ns 0, nth ns 1, nth ns 2, nth ns 3, nth ns 4, nth ns 5, nth ns 6, nth ns 7, nth ns 8, nth ns 9, nth ns 10, nth ns 11, nth ns 12, nth ns 13, nth ns 14, nth ns 15, nth ns 16, nth ns 17, nth ns 18, nth ns 19, nth ns 20, nth ns 21, nth ns 22, nth ns 23, nth ns 24, nth ns 25, nth ns 26, nth ns 27, nth ns 28, nth ns 29, nth ns 30, nth ns 31, nth ns 32, nth ns 33, nth ns 34, nth ns 35, nth ns 36, nth ns 37, nth ns 38]
  | a0 :: a1 :: a2 :: a3 :: a4 :: a5 :: a6 :: a7 :: a8 :: a9 :: a10 :: a11 :: a12 :: a13 :: a14 :: a15 :: a16 :: a17 :: a18 :: a19 :: a20 :: a21 :: a22 :: a23 :: a24 :: a25 :: a26 :: a27 :: a28 :: a29 :: a30 :: a31 :: a32 :: a33 :: a34 :: a35 :: a36 :: a37 :: a38 :: [], _ => rfl
theorem be4_o4 {ns : List Int} (h : Bs ns) (k : Nat) : be4n (o4 ns k) = [nth ns k, nth ns (k + 1), nth ns (k + 2), nth ns (k + 3)] := by
  have h0 := h.nth k; have h1 := h.nth (k + 1); have h2 := h.nth (k + 2); have h3 := h.nth (k + 3)
  unfold be4n o4
  generalize nth ns k = a0 at *; generalize nth ns (k + 1) = a1 at *; generalize nth ns (k + 2) = a2 at *; generalize nth ns (k + 3) = a3 at *
  rw [show (((a0 * 256 + a1) * 256 + a2) * 256 + a3) / 16777216 % 256 = a0 by omega, show (((a0 * 256 + a1) * 256 + a2) * 256 + a3) / 65536 % 256 = a1 by omega, show (((a0 * 256 + a1) * 256 + a2) * 256 + a3) / 256 % 256 = a2 by omega, show (((a0 * 256 + a1) * 256 + a2) * 256 + a3) % 256 = a3 by omega]
theorem be8_o8 {ns : List Int} (h : Bs ns) (k : Nat) : be8n (o8 ns k) = [nth ns k, nth ns (k + 1), nth ns (k + 2), nth ns (k + 3), nth ns (k + 4), nth ns (k + 5), nth ns (k + 6), nth ns (k + 7)] := by
  have h0 := h.nth k; have h1 := h.nth (k + 1); have h2 := h.nth (k + 2); have h3 := h.nth (k + 3)
  have h4 := h.nth (k + 4); have h5 := h.nth (k + 5); have h6 := h.nth (k + 6); have h7 := h.nth (k + 7)
  unfold be8n o8
  generalize nth ns k = a0 at *; generalize nth ns (k + 1) = a1 at *; generalize nth ns (k + 2) = a2 at *; generalize nth ns (k + 3) = a3 at *
  generalize nth ns (k + 4) = a4 at *; generalize nth ns (k + 5) = a5 at *; generalize nth ns (k + 6) = a6 at *; generalize nth ns (k + 7) = a7 at *
  have e0 : (((((((a0 * 256 + a1) * 256 + a2) * 256 + a3) * 256 + a4) * 256 + a5) * 256 + a6) * 256 + a7) / 72057594037927936 % 256 = a0 := by omega
  have e1 : (((((((a0 * 256 + a1) * 256 + a2) * 256 + a3) * 256 + a4) * 256 + a5) * 256 + a6) * 256 + a7) / 281474976710656 % 256 = a1 := by omega
  have e2 : (((((((a0 * 256 + a1) * 256 + a2) * 256 + a3) * 256 + a4) * 256 + a5) * 256 + a6) * 256 + a7) / 1099511627776 % 256 = a2 := by omega
  have e3 : (((((((a0 * 256 + a1) * 256 + a2) * 256 + a3) * 256 + a4) * 256 + a5) * 256 + a6) * 256 + a7) / 4294967296 % 256 = a3 := by omega
  have e4 : (((((((a0 * 256 + a1) * 256 + a2) * 256 + a3) * 256 + a4) * 256 + a5) * 256 + a6) * 256 + a7) / 16777216 % 256 = a4 := by omega
  have e5 : (((((((a0 * 256 + a1) * 256 + a2) * 256 + a3) * 256 + a4) * 256 + a5) * 256 + a6) * 256 + a7) / 65536 % 256 = a5 := by omega
  have e6 : (((((((a0 * 256 + a1) * 256 + a2) * 256 + a3) * 256 + a4) * 256 + a5) * 256 + a6) * 256 + a7) / 256 % 256 = a6 := by omega
  have e7 : (((((((a0 * 256 + a1) * 256 + a2) * 256 + a3) * 256 + a4) * 256 + a5) * 256 + a6) * 256 + a7) % 256 = a7 := by omega
  rw [e0, e1, e2, e3, e4, e5, e6, e7]
theorem save_ld {ns : List Int} (hl : ns.length = 39) (h : Bs ns) : mSaveN (o8 ns 0) (o8 ns 8) (o8 ns 16) (o4 ns 24) (nth ns 28) (o8 ns 29) (nth ns 37) (nth ns 38) = ns := by
  have b1 : ∀ k, be1n (nth ns k) = [nth ns k] := fun k => by
    unfold be1n; have := h.nth k; rw [show nth ns k % 256 = nth ns k by omega]
  unfold mSaveN
  rw [be8_o8 h, be8_o8 h, be8_o8 h, be4_o4 h, b1, be8_o8 h, b1, b1]
  exact (list39 ns hl).symm
end Go.VX.M17
