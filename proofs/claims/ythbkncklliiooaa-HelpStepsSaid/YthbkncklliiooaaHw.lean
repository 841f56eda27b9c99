/-
  Plain laws of words of 64 bits: a mark, an index, a generation, by sums and remainders.
-/
import Derived.Laws.BitsAllLaws
import Derived.Laws.Bits64
import Derived.RowKit
namespace Go.Proofs.YthbkncklliiooaaH
set_option linter.unusedVariables false
set_option linter.unusedSimpArgs false
open Go.RowKit (wrap64)

/-- A word of 64 bits. -/
def U64 (a : Int) : Prop := 0 ≤ a ∧ a < 18446744073709551616
def hV (a : Int) : Bool := decide (9223372036854775808 ≤ a)
def hM (a : Int) : Bool := decide (a / 4611686018427387904 % 2 = 1)
def hI (a : Int) : Int := a % 4294967296
def hG (a : Int) : Int := a / 4294967296 % 1073741824
def hMk (a : Int) : Int := if hM a = true then a else a + 4611686018427387904
def hPl (a : Int) : Int := if hM a = true then a - 4611686018427387904 else a
def hMay (i g : Int) : Bool := decide ((0 ≤ i ∧ i ≤ 4294967295) ∧ (0 ≤ g ∧ g ≤ 1073741823))
def hPk (i g : Int) (m : Bool) : Int := 9223372036854775808 + 4294967296 * g + i + (if m = true then 4611686018427387904 else 0)

theorem bmin (a b : Int) : bits .andNot .u64 a b = bits .andNot .u64 a b := rfl

theorem nat_or62 (a : Nat) : a ||| 4611686018427387904 = if a / 4611686018427387904 % 2 = 1 then a else a + 4611686018427387904 := by
  have h0 : a = 2 ^ 63 * (a / 2 ^ 63) + a % 2 ^ 63 := by omega
  have hl : a % 2 ^ 63 < 2 ^ 63 := Nat.mod_lt _ (by decide)
  have e1 := Nat.two_pow_add_eq_or_of_lt hl (a / 2 ^ 63)
  rw [← h0] at e1
  have hk : a % 2 ^ 62 < 2 ^ 62 := Nat.mod_lt _ (by decide)
  split
  · rename_i h
    have hm : a % 2 ^ 63 = 2 ^ 62 * 1 + a % 2 ^ 62 := by omega
    have e2 := Nat.two_pow_add_eq_or_of_lt hk 1
    have e3 : a = 2 ^ 63 * (a / 2 ^ 63) ||| (2 ^ 62 * 1 ||| a % 2 ^ 62) := by rw [← e2, ← hm]; exact e1
    have e4 : a ||| 4611686018427387904 = (2 ^ 63 * (a / 2 ^ 63) ||| (2 ^ 62 * 1 ||| a % 2 ^ 62)) ||| 2 ^ 62 * 1 := by rw [← e3]
    rw [e4, Nat.or_assoc, Nat.or_comm (2 ^ 62 * 1 ||| a % 2 ^ 62), ← Nat.or_assoc (2 ^ 62 * 1), Nat.or_self]
    exact e3.symm
  · rename_i h
    have hm : a % 2 ^ 63 = a % 2 ^ 62 := by omega
    have e2 := Nat.two_pow_add_eq_or_of_lt hk 1
    have e4 : a ||| 4611686018427387904 = (2 ^ 63 * (a / 2 ^ 63) ||| a % 2 ^ 62) ||| 2 ^ 62 * 1 := by rw [← hm, ← e1]
    have hb : 2 ^ 62 * 1 + a % 2 ^ 62 < 2 ^ 63 := by omega
    rw [e4, Nat.or_assoc, Nat.or_comm (a % 2 ^ 62), ← e2, ← Nat.two_pow_add_eq_or_of_lt hb]
    omega

theorem nat_bit (a i : Nat) : a &&& 2 ^ i = 2 ^ i * (a / 2 ^ i % 2) := by
  have hb : a.testBit i = decide (a / 2 ^ i % 2 = 1) := Nat.testBit_eq_decide_div_mod_eq
  have hc : a / 2 ^ i % 2 = 0 ∨ a / 2 ^ i % 2 = 1 := by omega
  apply Nat.eq_of_testBit_eq
  intro j
  rw [Nat.testBit_and, Nat.testBit_two_pow]
  by_cases hj : i = j
  · subst hj
    rcases hc with hc | hc <;> rw [hb, hc] <;> simp [Nat.testBit_two_pow]
  · rcases hc with hc | hc <;> rw [hc] <;> simp [hj, Nat.testBit_two_pow]

theorem nat_andNot62 (a : Nat) (h : a < 18446744073709551616) : a &&& 13835058055282163711 = if a / 4611686018427387904 % 2 = 1 then a - 4611686018427387904 else a := by
  have e0 : (13835058055282163711 : Nat) = 2 ^ 63 ||| (2 ^ 62 - 1) := by decide
  have e1 : a &&& (2 ^ 62 - 1) = a % 2 ^ 62 := Nat.and_two_pow_sub_one_eq_mod a 62
  have e2 : a &&& 2 ^ 63 = 2 ^ 63 * (a / 2 ^ 63 % 2) := nat_bit a 63
  have hk : a % 2 ^ 62 < 2 ^ 63 := Nat.lt_of_lt_of_le (Nat.mod_lt _ (by decide)) (by decide)
  rw [e0, Nat.and_or_distrib_left, e1, e2, ← Nat.two_pow_add_eq_or_of_lt hk]
  split <;> omega

theorem bits_or62 {a : Int} (h : U64 a) : bits .or .u64 a 4611686018427387904 = hMk a := by
  obtain ⟨h0, h1⟩ := h
  rw [u64_or a _ h0 h1 (by omega) (by omega)]
  have e : (4611686018427387904 : Int).toNat = 4611686018427387904 := rfl
  rw [e, nat_or62]
  unfold hMk hM
  by_cases h : a / 4611686018427387904 % 2 = 1
  · rw [if_pos (by omega), if_pos (by simpa using h)]; omega
  · rw [if_neg (by omega), if_neg (by simpa using h)]; omega

theorem bits_andNot62 {a : Int} (h : U64 a) : bits .andNot .u64 a 4611686018427387904 = hPl a := by
  obtain ⟨h0, h1⟩ := h
  rw [u64_andNot a _ h0 h1 (by omega) (by omega)]
  have e : 18446744073709551615 - (4611686018427387904 : Int).toNat = 13835058055282163711 := rfl
  rw [e, nat_andNot62 _ (by omega)]
  unfold hPl hM
  by_cases h : a / 4611686018427387904 % 2 = 1
  · rw [if_pos (by omega), if_pos (by simpa using h)]; omega
  · rw [if_neg (by omega), if_neg (by simpa using h)]; omega

theorem bits_valid {a : Int} (h : U64 a) : (bits .and .u64 a 9223372036854775808 != 0) = hV a := by
  obtain ⟨h0, h1⟩ := h
  rw [u64_and a _ h0 h1 (by omega) (by omega)]
  have e : (9223372036854775808 : Int).toNat = 2 ^ 63 := rfl
  rw [e, nat_bit]
  unfold hV
  by_cases h : 9223372036854775808 ≤ a
  · rw [decide_eq_true h, bne_iff_ne]; omega
  · rw [decide_eq_false h, bne_eq_false_iff_eq]; omega

theorem bits_marked {a : Int} (h : U64 a) : (bits .and .u64 a 4611686018427387904 != 0) = hM a := by
  obtain ⟨h0, h1⟩ := h
  rw [u64_and a _ h0 h1 (by omega) (by omega)]
  have e : (4611686018427387904 : Int).toNat = 2 ^ 62 := rfl
  rw [e, nat_bit]
  unfold hM
  by_cases h : a / 4611686018427387904 % 2 = 1
  · rw [decide_eq_true h, bne_iff_ne]; omega
  · rw [decide_eq_false h, bne_eq_false_iff_eq]; omega

theorem bits_low32 {a : Int} (h : U64 a) : wrap64 (bits .and .u64 a 4294967295) = hI a := by
  obtain ⟨h0, h1⟩ := h
  rw [u64_and a _ h0 h1 (by omega) (by omega)]
  have e : (4294967295 : Int).toNat = 2 ^ 32 - 1 := rfl
  rw [e, Nat.and_two_pow_sub_one_eq_mod]
  unfold hI wrap64
  omega

theorem bits_low30 {a : Int} (h : U64 a) : wrap64 (bits .and .u64 a 1073741823) = a % 1073741824 := by
  obtain ⟨h0, h1⟩ := h
  rw [u64_and a _ h0 h1 (by omega) (by omega)]
  have e : (1073741823 : Int).toNat = 2 ^ 30 - 1 := rfl
  rw [e, Nat.and_two_pow_sub_one_eq_mod]
  unfold wrap64
  omega

theorem bits_gen {a : Int} (h : U64 a) : wrap64 (bits .and .u64 (a / 4294967296) 1073741823) = hG a := by
  obtain ⟨h0, h1⟩ := h
  exact bits_low30 ⟨by omega, by omega⟩

/-- What a word is behind some parts. -/
def pkTo (g i : Int) : Nat → Int
  | 0 => 0
  | 1 => 9223372036854775808
  | 2 => 9223372036854775808 + 4294967296 * g
  | _ => 9223372036854775808 + 4294967296 * g + i

theorem nat_or_sum (i a b : Nat) (h : b < 2 ^ i) : 2 ^ i * a ||| b = 2 ^ i * a + b := (Nat.two_pow_add_eq_or_of_lt h a).symm

theorem pk_or0 (g i : Int) : bits .or .u64 (pkTo g i 0) 9223372036854775808 = pkTo g i 1 := by
  show bits .or .u64 0 9223372036854775808 = 9223372036854775808
  rw [u64_or 0 _ (by omega) (by omega) (by omega) (by omega)]
  rfl

theorem pk_or1 {g : Int} (i : Int) (hg0 : 0 ≤ g) (hg1 : g ≤ 1073741823) : bits .or .u64 (pkTo g i 1) (g * 4294967296) = pkTo g i 2 := by
  show bits .or .u64 9223372036854775808 (g * 4294967296) = 9223372036854775808 + 4294967296 * g
  rw [u64_or _ _ (by omega) (by omega) (by omega) (by omega)]
  have e : (9223372036854775808 : Int).toNat = 2 ^ 63 * 1 := rfl
  have hl : (g * 4294967296).toNat < 2 ^ 63 := by omega
  rw [e, nat_or_sum 63 1 _ hl]
  omega

theorem pk_or2 {g i : Int} (hg0 : 0 ≤ g) (hg1 : g ≤ 1073741823) (hi0 : 0 ≤ i) (hi1 : i ≤ 4294967295) : bits .or .u64 (pkTo g i 2) i = pkTo g i 3 := by
  show bits .or .u64 (9223372036854775808 + 4294967296 * g) i = 9223372036854775808 + 4294967296 * g + i
  rw [u64_or _ _ (by omega) (by omega) (by omega) (by omega)]
  have e : (9223372036854775808 + 4294967296 * g).toNat = 2 ^ 32 * (2147483648 + g.toNat) := by omega
  have hl : i.toNat < 2 ^ 32 := by omega
  rw [e, nat_or_sum 32 _ _ hl]
  omega

theorem pk_u64 {g i : Int} (hg0 : 0 ≤ g) (hg1 : g ≤ 1073741823) (hi0 : 0 ≤ i) (hi1 : i ≤ 4294967295) : U64 (pkTo g i 3) := by
  show U64 (9223372036854775808 + 4294967296 * g + i)
  exact ⟨by omega, by omega⟩

theorem pk_mk {g i : Int} (hg0 : 0 ≤ g) (hg1 : g ≤ 1073741823) (hi0 : 0 ≤ i) (hi1 : i ≤ 4294967295) : hMk (pkTo g i 3) = hPk i g true := by
  show hMk (9223372036854775808 + 4294967296 * g + i) = _
  unfold hMk hM hPk
  rw [if_neg (by simp; omega), if_pos rfl]

theorem pk_nomk (g i : Int) : pkTo g i 3 = hPk i g false := by
  show 9223372036854775808 + 4294967296 * g + i = _
  simp [hPk]

theorem pk_ref {g i : Int} (hg0 : 0 ≤ g) (hg1 : g ≤ 1073741823) (hi0 : 0 ≤ i) (hi1 : i ≤ 4294967295) : 9223372036854775808 + 4294967296 * g + i = hPk i g false := by
  simp [hPk]

theorem mk_wrap {a : Int} (h : U64 a) (hm : hM a = false) : IntKind.u64.wrap (a + 4611686018427387904) = hMk a := by
  obtain ⟨h0, h1⟩ := h
  rw [IntKind.wrap_u64, hMk, if_neg (by simp [hm])]
  have := of_decide_eq_false hm
  omega

theorem pl_wrap {a : Int} (h : U64 a) (hm : hM a = true) : IntKind.u64.wrap (a - 4611686018427387904) = hPl a := by
  obtain ⟨h0, h1⟩ := h
  rw [IntKind.wrap_u64, hPl, if_pos hm]
  have := of_decide_eq_true hm
  omega

theorem pk_true (g i : Int) : hPk i g false + 4611686018427387904 = hPk i g true := by
  simp [hPk]

theorem marked_ref {a : Int} (h : U64 a) : ((IntKind.u64.wrap (a.tdiv 4611686018427387904)).tmod 2 == 1) = hM a := by
  obtain ⟨h0, h1⟩ := h
  rw [Int.tdiv_eq_ediv_of_nonneg h0, IntKind.wrap_u64, Int.tmod_eq_emod_of_nonneg (by omega), hM]
  have e : a / 4611686018427387904 % 18446744073709551616 = a / 4611686018427387904 := by omega
  rw [e]
  by_cases h : a / 4611686018427387904 % 2 = 1 <;> simp [h]

theorem gen_ref {a : Int} (h : U64 a) : wrap64 ((IntKind.u64.wrap (a.tdiv 4294967296)).tmod 1073741824) = hG a := by
  obtain ⟨h0, h1⟩ := h
  rw [Int.tdiv_eq_ediv_of_nonneg h0, IntKind.wrap_u64, Int.tmod_eq_emod_of_nonneg (by omega), hG]
  have e : a / 4294967296 % 18446744073709551616 = a / 4294967296 := by omega
  rw [e]
  unfold wrap64
  omega

theorem pk_facts {i g : Int} (m : Bool) (h : hMay i g = true) :
    U64 (hPk i g m) ∧ hV (hPk i g m) = true ∧ hM (hPk i g m) = m ∧ hI (hPk i g m) = i ∧ hG (hPk i g m) = g ∧ hMk (hPk i g m) = hPk i g true ∧ hPl (hPk i g m) = hPk i g false := by
  obtain ⟨⟨h0, h1⟩, h2, h3⟩ := of_decide_eq_true h
  unfold U64 hV hMk hPl hM hI hG hPk
  cases m
  · simp only [Bool.false_eq_true, if_false, if_true, decide_eq_true_eq, decide_eq_false_iff_not]
    refine ⟨⟨by omega, by omega⟩, by omega, by omega, by omega, by omega, ?_, ?_⟩
    · rw [if_neg (by omega)]; omega
    · rw [if_neg (by omega)]
  · simp only [Bool.false_eq_true, if_false, if_true, decide_eq_true_eq]
    refine ⟨⟨by omega, by omega⟩, by omega, by omega, by omega, by omega, ?_, ?_⟩
    · rw [if_pos (by omega)]
    · rw [if_pos (by omega)]; omega

theorem parts_may {a : Int} (h : U64 a) : hMay (hI a) (hG a) = true := by
  unfold hMay hI hG
  simp only [decide_eq_true_eq]
  omega

theorem parts_back {a : Int} (h : U64 a) : (hPk (hI a) (hG a) (hM a) == a) = hV a := by
  obtain ⟨h0, h1⟩ := h
  unfold hPk hI hG hM hV
  by_cases c : 9223372036854775808 ≤ a
  · rw [decide_eq_true c, beq_iff_eq]
    by_cases d : a / 4611686018427387904 % 2 = 1
    · rw [if_pos (by simpa using d)]; omega
    · rw [if_neg (by simpa using d)]; omega
  · rw [decide_eq_false c, beq_eq_false_iff_ne]
    split <;> omega

theorem mk_facts {a : Int} (h : U64 a) :
    U64 (hMk a) ∧ hM (hMk a) = true ∧ hMk (hMk a) = hMk a ∧ hPl (hMk a) = hPl a ∧ hI (hMk a) = hI a ∧ hG (hMk a) = hG a ∧ hV (hMk a) = hV a := by
  obtain ⟨h0, h1⟩ := h
  by_cases d : a / 4611686018427387904 % 2 = 1
  · have e : hMk a = a := by rw [hMk, if_pos]; simpa [hM] using d
    rw [e]
    exact ⟨⟨h0, h1⟩, by simpa [hM] using d, by rw [e], rfl, rfl, rfl, rfl⟩
  · have e : hMk a = a + 4611686018427387904 := by rw [hMk, if_neg]; simpa [hM] using d
    have e2 : hPl a = a := by rw [hPl, if_neg]; simpa [hM] using d
    have em : hM (a + 4611686018427387904) = true := by simp only [hM, decide_eq_true_eq]; omega
    rw [e, e2]
    refine ⟨⟨by omega, by omega⟩, em, by rw [hMk, if_pos em], by rw [hPl, if_pos em]; omega, by unfold hI; omega, by unfold hG; omega, ?_⟩
    unfold hV
    by_cases c : 9223372036854775808 ≤ a
    · rw [decide_eq_true c, decide_eq_true_eq]; omega
    · rw [decide_eq_false c, decide_eq_false_iff_not]; omega

theorem pl_facts {a : Int} (h : U64 a) :
    U64 (hPl a) ∧ hM (hPl a) = false ∧ hPl (hPl a) = hPl a ∧ hMk (hPl a) = hMk a ∧ hI (hPl a) = hI a ∧ hG (hPl a) = hG a ∧ hV (hPl a) = hV a := by
  obtain ⟨h0, h1⟩ := h
  by_cases d : a / 4611686018427387904 % 2 = 1
  · have e : hPl a = a - 4611686018427387904 := by rw [hPl, if_pos]; simpa [hM] using d
    have e2 : hMk a = a := by rw [hMk, if_pos]; simpa [hM] using d
    have em : hM (a - 4611686018427387904) = false := by simp only [hM, decide_eq_false_iff_not]; omega
    have em' : ¬ hM (a - 4611686018427387904) = true := by rw [em]; simp
    rw [e, e2]
    refine ⟨⟨by omega, by omega⟩, em, by rw [hPl, if_neg em'], by rw [hMk, if_neg em']; omega, by unfold hI; omega, by unfold hG; omega, ?_⟩
    unfold hV
    by_cases c : 9223372036854775808 ≤ a
    · rw [decide_eq_true c, decide_eq_true_eq]; omega
    · rw [decide_eq_false c, decide_eq_false_iff_not]; omega
  · have e : hPl a = a := by rw [hPl, if_neg]; simpa [hM] using d
    rw [e]
    exact ⟨⟨h0, h1⟩, by simpa [hM] using d, by rw [e], rfl, rfl, rfl, rfl⟩

theorem mk_or_pl (a : Int) : (hM a = true ∧ hMk a = a) ∨ (hM a = false ∧ hPl a = a ∧ (a == hMk a) = false) := by
  by_cases d : hM a = true
  · exact .inl ⟨d, by rw [hMk, if_pos d]⟩
  · refine .inr ⟨by simpa using d, by rw [hPl, if_neg d], ?_⟩
    rw [hMk, if_neg d, beq_eq_false_iff_ne]
    omega

theorem parts_same {a b : Int} (ha : U64 a) (hb : U64 b) (h1 : hI a = hI b) (h2 : hG a = hG b) (h3 : hM a = hM b) (h4 : hV a = hV b) : a = b := by
  obtain ⟨a0, a1⟩ := ha
  obtain ⟨b0, b1⟩ := hb
  unfold hI at h1
  unfold hG at h2
  unfold hM at h3
  unfold hV at h4
  simp only [decide_eq_decide] at h3 h4
  omega
end Go.Proofs.YthbkncklliiooaaH
