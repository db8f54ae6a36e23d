/- Plain laws for ArbiterLoads: bytes as numbers. -/
import Derived.Test.YtgghljienippgaaVS
import Derived.Test.YtgghljienippgaaVB
import Derived.Test.YtgghljienippgaaVL
namespace Go.VX.M17
set_option linter.unusedVariables false
set_option linter.unusedSimpArgs false
def nth (ns : List Int) (i : Nat) : Int := ns.getD i 0
def o4 (ns : List Int) (k : Nat) : Int := ((nth ns k * 256 + nth ns (k + 1)) * 256 + nth ns (k + 2)) * 256 + nth ns (k + 3)
def o8 (ns : List Int) (k : Nat) : Int := (((((((nth ns k * 256 + nth ns (k + 1)) * 256 + nth ns (k + 2)) * 256 + nth ns (k + 3)) * 256 + nth ns (k + 4)) * 256 + nth ns (k + 5)) * 256 + nth ns (k + 6)) * 256 + nth ns (k + 7))
/-- what a number becomes with a byte more -/
def so (a v : Int) : Int := IntKind.wrap .u64 (↑(BitVec.toNat (BitVec.ofInt (IntKind.bits .u64) (IntKind.wrap .u64 (a * 2 ^ Min.min (Int.toNat 8) (IntKind.bits .u64))) ||| BitVec.ofInt (IntKind.bits .u64) (IntKind.wrap .u64 v))) : Int)
theorem so_eq {a v : Int} (h0 : 0 ≤ a) (h1 : a ≤ 72057594037927935) (hv : 0 ≤ v ∧ v ≤ 255) : so a v = a * 256 + v := by
  obtain ⟨x, rfl⟩ := Int.eq_ofNat_of_zero_le h0
  obtain ⟨y, rfl⟩ := Int.eq_ofNat_of_zero_le hv.1
  have hx : x ≤ 72057594037927935 := by omega
  have hy : y ≤ 255 := by omega
  have e1 : IntKind.u64.wrap ((x : Int) * 2 ^ Min.min (Int.toNat 8) IntKind.u64.bits) = ((x * 256 : Nat) : Int) := by
    rw [show (2 : Int) ^ Min.min (Int.toNat 8) IntKind.u64.bits = 256 from rfl, w64]; omega
  have e2 : IntKind.u64.wrap (y : Int) = ((y : Nat) : Int) := by rw [w64]; omega
  unfold so
  rw [e1, e2, BitVec.ofInt_natCast, BitVec.ofInt_natCast, BitVec.toNat_or, BitVec.toNat_ofNat, BitVec.toNat_ofNat,
    Nat.mod_eq_of_lt (show x * 256 < 2 ^ IntKind.u64.bits by show x * 256 < 18446744073709551616; omega), Nat.mod_eq_of_lt (show y < 2 ^ IntKind.u64.bits by show y < 18446744073709551616; omega)]
  have h2 : x * 256 ||| y = x * 256 + y := by
    have := Nat.two_pow_add_eq_or_of_lt (i := 8) (b := y) (by omega) x
    rw [show (2 : Nat) ^ 8 = 256 from rfl] at this
    rw [Nat.mul_comm x 256]; exact this.symm
  rw [h2, w64]; omega
/-- the arbiter of bytes, and whether it may be -/
def ldC (ns : List Int) : List Value := [.int .u64 (o8 ns 0), .int .u64 (o8 ns 8), .int .u64 (o8 ns 16), .int .u32 (o4 ns 24), .int .i64 (nth ns 28), .int .u64 (o8 ns 29), .int .i64 (nth ns 37), .int .i64 (nth ns 38)]
def ldR (ns : List Int) : List Value := [.int .u64 (o8 ns 0), .int .u64 (o8 ns 8), .int .u64 (o8 ns 16), .int .u32 (o4 ns 24), .int .i64 (nth ns 28), .int .u64 (o8 ns 29), .int .i64 (nth ns 37)]
def ldOk (ns : List Int) : Bool := decide (ns.length = 39 ∧ 1 ≤ o8 ns 0 ∧ o8 ns 0 ≤ 10000 ∧ o8 ns 8 ≤ 10000 ∧ o8 ns 16 ≤ 4611686018427387904 ∧ mCheck (o4 ns 24) (nth ns 28) (o8 ns 29) (nth ns 37) = 0 ∧ nth ns 38 = nth ns 28)
/-- bytes -/
def Bs (ns : List Int) : Prop := ∀ x ∈ ns, 0 ≤ x ∧ x ≤ 255
theorem Bs.nth {ns : List Int} (h : Bs ns) (i : Nat) : 0 ≤ nth ns i ∧ nth ns i ≤ 255 := by
  unfold M17.nth
  rw [List.getD_eq_getElem?_getD]
  cases hi : ns[i]? with
  | none => simp
  | some x => exact h x (List.mem_of_getElem? hi)
theorem o4_range {ns : List Int} (h : Bs ns) (k : Nat) : 0 ≤ o4 ns k ∧ o4 ns k ≤ 4294967295 := by
  have h0 := h.nth k; have h1 := h.nth (k + 1); have h2 := h.nth (k + 2); have h3 := h.nth (k + 3)
  unfold o4; omega
theorem o8_range {ns : List Int} (h : Bs ns) (k : Nat) : 0 ≤ o8 ns k ∧ o8 ns k ≤ 18446744073709551615 := by
  have h0 := h.nth k; have h1 := h.nth (k + 1); have h2 := h.nth (k + 2); have h3 := h.nth (k + 3)
  have h4 := h.nth (k + 4); have h5 := h.nth (k + 5); have h6 := h.nth (k + 6); have h7 := h.nth (k + 7)
  unfold o8; omega
theorem nth_cut {ns : List Int} {o k i : Nat} (hi : i < k) : nth ((ns.drop o).take k) i = nth ns (o + i) := by
  unfold nth
  rw [List.getD_eq_getElem?_getD, List.getD_eq_getElem?_getD, List.getElem?_take, if_pos hi, List.getElem?_drop]
theorem o4_cut (ns : List Int) (o : Nat) : o4 ((ns.drop o).take 4) 0 = o4 ns o := by
  unfold o4; rw [nth_cut (by decide), nth_cut (by decide), nth_cut (by decide), nth_cut (by decide)]; rfl
theorem o8_cut (ns : List Int) (o : Nat) : o8 ((ns.drop o).take 8) 0 = o8 ns o := by
  unfold o8; rw [nth_cut (by decide), nth_cut (by decide), nth_cut (by decide), nth_cut (by decide), nth_cut (by decide), nth_cut (by decide), nth_cut (by decide), nth_cut (by decide)]; rfl
theorem cut_row {ns : List Int} {m o k : Nat} {r : List Value} (hl : ns.length = m) (h : o + k ≤ m) (hb : Bs ns) :
    List.take k (List.drop o ([] ++ ns.map (Value.int .u8) ++ r)) = ((ns.drop o).take k).map (Value.int .u8) ∧ ((ns.drop o).take k).length = k ∧ Bs ((ns.drop o).take k) := by
  refine ⟨?_, by rw [List.length_take, List.length_drop]; omega, fun x hx => hb x (List.mem_of_mem_drop (List.mem_of_mem_take hx))⟩
  rw [List.nil_append, List.drop_append_of_le_length (by rw [List.length_map]; omega), List.take_append_of_le_length (by rw [List.length_drop, List.length_map]; omega), List.map_take, List.map_drop]
theorem so1 {ns : List Int} (h : Bs ns) : so 0 (nth ns 0) = nth ns 0 := by rw [so_eq (by decide) (by decide) (h.nth 0)]; omega
theorem so4 {ns : List Int} (h : Bs ns) : so (so (so (so 0 (nth ns 0)) (nth ns 1)) (nth ns 2)) (nth ns 3) = o4 ns 0 := by
  have h0 := h.nth 0; have h1 := h.nth 1; have h2 := h.nth 2; have h3 := h.nth 3
  rw [so1 h, so_eq (by omega) (by omega) h1, so_eq (by omega) (by omega) h2, so_eq (by omega) (by omega) h3]; rfl
theorem so8 {ns : List Int} (h : Bs ns) : so (so (so (so (so (so (so (so 0 (nth ns 0)) (nth ns 1)) (nth ns 2)) (nth ns 3)) (nth ns 4)) (nth ns 5)) (nth ns 6)) (nth ns 7) = o8 ns 0 := by
  have h0 := h.nth 0; have h1 := h.nth 1; have h2 := h.nth 2; have h3 := h.nth 3
  have h4 := h.nth 4; have h5 := h.nth 5; have h6 := h.nth 6; have h7 := h.nth 7
  have r4 := o4_range h 0
  rw [so4 h, show o8 ns 0 = (((o4 ns 0 * 256 + nth ns 4) * 256 + nth ns 5) * 256 + nth ns 6) * 256 + nth ns 7 from rfl]
  generalize o4 ns 0 = q at r4
  rw [so_eq r4.1 (by omega) h4, so_eq (by omega) (by omega) h5, so_eq (by omega) (by omega) h6, so_eq (by omega) (by omega) h7]
def sw (a v : Int) : Int := IntKind.u64.wrap (IntKind.u64.wrap (a * 256) + IntKind.u64.wrap v)
theorem sw_eq {a v : Int} (h0 : 0 ≤ a) (h1 : a ≤ 72057594037927935) (hv : 0 ≤ v ∧ v ≤ 255) : sw a v = a * 256 + v := by
  unfold sw; rw [wu64, wu64, wu64]; omega
theorem sw4 {ns : List Int} (h : Bs ns) : sw (sw (sw (sw 0 (nth ns 0)) (nth ns 1)) (nth ns 2)) (nth ns 3) = o4 ns 0 := by
  have h0 := h.nth 0; have h1 := h.nth 1; have h2 := h.nth 2; have h3 := h.nth 3
  rw [sw_eq (by decide) (by decide) h0, sw_eq (by omega) (by omega) h1, sw_eq (by omega) (by omega) h2, sw_eq (by omega) (by omega) h3]
  show _ = ((nth ns 0 * 256 + nth ns 1) * 256 + nth ns 2) * 256 + nth ns 3
  omega
theorem sw8 {ns : List Int} (h : Bs ns) : sw (sw (sw (sw (sw (sw (sw (sw 0 (nth ns 0)) (nth ns 1)) (nth ns 2)) (nth ns 3)) (nth ns 4)) (nth ns 5)) (nth ns 6)) (nth ns 7) = o8 ns 0 := by
  have h0 := h.nth 0; have h1 := h.nth 1; have h2 := h.nth 2; have h3 := h.nth 3
  have h4 := h.nth 4; have h5 := h.nth 5; have h6 := h.nth 6; have h7 := h.nth 7
  have r4 := o4_range h 0
  rw [sw4 h, show o8 ns 0 = (((o4 ns 0 * 256 + nth ns 4) * 256 + nth ns 5) * 256 + nth ns 6) * 256 + nth ns 7 from rfl]
  generalize o4 ns 0 = q at r4
  rw [sw_eq r4.1 (by omega) h4, sw_eq (by omega) (by omega) h5, sw_eq (by omega) (by omega) h6, sw_eq (by omega) (by omega) h7]
def be1n (n : Int) : List Int := [n % 256]
def be4n (n : Int) : List Int := [n / 16777216 % 256, n / 65536 % 256, n / 256 % 256, n % 256]
def be8n (n : Int) : List Int := [n / 72057594037927936 % 256, n / 281474976710656 % 256, n / 1099511627776 % 256, n / 4294967296 % 256, n / 16777216 % 256, n / 65536 % 256, n / 256 % 256, n % 256]
def mSaveN (L G now e ho u mo la : Int) : List Int := be8n L ++ (be8n G ++ (be8n now ++ (be4n e ++ (be1n ho ++ (be8n u ++ (be1n mo ++ be1n la))))))
theorem back4 {n : Int} (h0 : 0 ≤ n) (h1 : n ≤ 4294967295) : ((n / 16777216 % 256 * 256 + n / 65536 % 256) * 256 + n / 256 % 256) * 256 + n % 256 = n := by
  have e0 : n = n / 256 * 256 + n % 256 := by omega
  have e1 : n / 256 = n / 65536 * 256 + n / 256 % 256 := by omega
  have e2 : n / 65536 = n / 16777216 * 256 + n / 65536 % 256 := by omega
  have e3 : n / 16777216 % 256 = n / 16777216 := by omega
  rw [e3, ← e2, ← e1, ← e0]
theorem back8 {n : Int} (h0 : 0 ≤ n) (h1 : n ≤ 18446744073709551615) :
    ((((((n / 72057594037927936 % 256 * 256 + n / 281474976710656 % 256) * 256 + n / 1099511627776 % 256) * 256 + n / 4294967296 % 256) * 256 + n / 16777216 % 256) * 256 + n / 65536 % 256) * 256 + n / 256 % 256) * 256 + n % 256 = n := by
  have e0 : n = n / 256 * 256 + n % 256 := by omega
  have e1 : n / 256 = n / 65536 * 256 + n / 256 % 256 := by omega
  have e2 : n / 65536 = n / 16777216 * 256 + n / 65536 % 256 := by omega
  have e3 : n / 16777216 = n / 4294967296 * 256 + n / 16777216 % 256 := by omega
  have e4 : n / 4294967296 = n / 1099511627776 * 256 + n / 4294967296 % 256 := by omega
  have e5 : n / 1099511627776 = n / 281474976710656 * 256 + n / 1099511627776 % 256 := by omega
  have e6 : n / 281474976710656 = n / 72057594037927936 * 256 + n / 281474976710656 % 256 := by omega
  have e7 : n / 72057594037927936 % 256 = n / 72057594037927936 := by omega
  rw [e7, ← e6, ← e5, ← e4, ← e3, ← e2, ← e1, ← e0]
theorem ld_save {L G now e ho u mo : Int} (hL : 1 ≤ L ∧ L ≤ 10000) (hG : 0 ≤ G ∧ G ≤ 10000) (R : Rg now e ho u mo) (hc : mCheck e ho u mo = 0) :
    ldOk (mSaveN L G now e ho u mo ho) = true ∧ ldC (mSaveN L G now e ho u mo ho) = [.int .u64 L, .int .u64 G, .int .u64 now, .int .u32 e, .int .i64 ho, .int .u64 u, .int .i64 mo, .int .i64 ho] := by
  have a1 : o8 (mSaveN L G now e ho u mo ho) 0 = L := back8 (by omega) (by omega)
  have a2 : o8 (mSaveN L G now e ho u mo ho) 8 = G := back8 (by omega) (by omega)
  have a3 : o8 (mSaveN L G now e ho u mo ho) 16 = now := back8 R.now0 (by have := R.now1; omega)
  have a4 : o4 (mSaveN L G now e ho u mo ho) 24 = e := back4 R.e0 R.e1
  have a5 : nth (mSaveN L G now e ho u mo ho) 28 = ho := by show ho % 256 = ho; have := R.ho; omega
  have a6 : o8 (mSaveN L G now e ho u mo ho) 29 = u := back8 R.u0 R.u1
  have a7 : nth (mSaveN L G now e ho u mo ho) 37 = mo := by show mo % 256 = mo; have := R.mo; omega
  have a8 : nth (mSaveN L G now e ho u mo ho) 38 = ho := by show ho % 256 = ho; have := R.ho; omega
  constructor
  · unfold ldOk
    rw [a1, a2, a3, a4, a5, a6, a7, a8]
    exact decide_eq_true ⟨rfl, hL.1, hL.2, hG.2, R.now1, hc, rfl⟩
  · unfold ldC
    rw [a1, a2, a3, a4, a5, a6, a7, a8]
end Go.VX.M17
