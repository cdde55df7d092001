/-
  Bytes as lists; encodings of runes by ranges of bytes; what the model's own decoding of a string answers in these words. No program in this text.
-/
import Derived.Lib.DecodeN
namespace Go.Proofs.YtliphfgiaioebaaDoor
set_option linter.unusedVariables false
set_option linter.unusedSimpArgs false

/-! ### bytes -/
def bs (l : List UInt8) : ByteArray := ⟨l.toArray⟩
def lst (s : ByteArray) : List UInt8 := s.data.toList
theorem bs_lst (s : ByteArray) : bs (lst s) = s := by simp [bs, lst]
theorem lst_bs (l : List UInt8) : lst (bs l) = l := by simp [bs, lst]
theorem bs_size (l : List UInt8) : (bs l).size = l.length := by simp [bs, ByteArray.size]
theorem bs_toList (l : List UInt8) : (bs l).data.toList = l := by simp [bs]
theorem bs_inj {a b : List UInt8} (h : bs a = bs b) : a = b := by have := congrArg lst h; rwa [lst_bs, lst_bs] at this
/-- byte i, as a number -/
def gb (l : List UInt8) (i : Nat) : Int := ((l.getD i 0).toNat : Int)
theorem gb_lo (l : List UInt8) (i : Nat) : 0 ≤ gb l i := by unfold gb; omega
theorem gb_hi (l : List UInt8) (i : Nat) : gb l i < 256 := by
  unfold gb; have := (l.getD i 0).toNat_lt; omega
theorem gb_drop (l : List UInt8) (k i : Nat) : gb (l.drop k) i = gb l (k + i) := by
  unfold gb; simp [List.getD_eq_getElem?_getD, List.getElem?_drop]
theorem gb_take (l : List UInt8) (k i : Nat) (h : i < k) : gb (l.take k) i = gb l i := by
  unfold gb; simp [List.getD_eq_getElem?_getD, h]


/-! ### encodings -/
/-- a byte behind the first -/
def tl (x : Int) : Bool := decide (0x80 ≤ x) && decide (x < 0xc0)
/-- the second byte -/
def sc (a x : Int) : Bool := tl x && (!decide (a = 0xe0) || decide (0xa0 ≤ x)) && (!decide (a = 0xed) || decide (x < 0xa0)) && (!decide (a = 0xf0) || decide (0x90 ≤ x)) && (!decide (a = 0xf4) || decide (x < 0x90))
def enc4 (a b c d : Int) : Nat :=
  if a < 0x80 then 1 else if a < 0xc2 then 0 else if a < 0xe0 then (if tl b then 2 else 0) else if a < 0xf0 then (if sc a b && tl c then 3 else 0) else if a < 0xf5 then (if sc a b && tl c && tl d then 4 else 0) else 0
/-- how many bytes the encoding has with which the list begins; 0: it begins with none -/
def encLen (l : List UInt8) : Nat := if l.length = 0 then 0 else enc4 (gb l 0) (gb l 1) (gb l 2) (gb l 3)
/-- the rune with which the list begins -/
def runeOf (l : List UInt8) : Int := match encLen l with
  | 1 => gb l 0
  | 2 => gb l 0 % 32 * 64 + gb l 1 % 64
  | 3 => (gb l 0 % 16 * 64 + gb l 1 % 64) * 64 + gb l 2 % 64
  | 4 => ((gb l 0 % 8 * 64 + gb l 1 % 64) * 64 + gb l 2 % 64) * 64 + gb l 3 % 64
  | _ => 0xfffd
/-- how wide the step is with which the list begins -/
def stepW (l : List UInt8) : Nat := if encLen l = 0 then 1 else encLen l

theorem gb_out (l : List UInt8) (i : Nat) (h : l.length ≤ i) : gb l i = 0 := by
  unfold gb; simp [List.getD_eq_getElem?_getD, List.getElem?_eq_none h]
theorem tl_len {l : List UInt8} {i : Nat} (h : tl (gb l i) = true) : i < l.length := by
  apply Classical.byContradiction; intro hn
  rw [gb_out l i (by omega)] at h; simp [tl] at h
theorem tl_iff {x : Int} : tl x = true ↔ 0x80 ≤ x ∧ x < 0xc0 := by simp [tl]
theorem sc_iff {a x : Int} : sc a x = true ↔ (0x80 ≤ x ∧ x < 0xc0) ∧ (a = 0xe0 → 0xa0 ≤ x) ∧ (a = 0xed → x < 0xa0) ∧ (a = 0xf0 → 0x90 ≤ x) ∧ (a = 0xf4 → x < 0x90) := by
  simp only [sc, tl, Bool.and_eq_true, Bool.or_eq_true, Bool.not_eq_true', decide_eq_true_eq, decide_eq_false_iff_not]
  constructor
  · rintro ⟨⟨⟨⟨h1, h2⟩, h3⟩, h4⟩, h5⟩; refine ⟨h1, ?_, ?_, ?_, ?_⟩ <;> omega
  · rintro ⟨h1, h2, h3, h4, h5⟩; refine ⟨⟨⟨⟨h1, ?_⟩, ?_⟩, ?_⟩, ?_⟩ <;> omega
/-- the encodings, by their lengths -/
theorem enc4_cases (a b c d : Int) :
    (enc4 a b c d = 0) ∨ (enc4 a b c d = 1 ∧ a < 0x80) ∨ (enc4 a b c d = 2 ∧ 0xc2 ≤ a ∧ a < 0xe0 ∧ tl b = true) ∨ (enc4 a b c d = 3 ∧ 0xe0 ≤ a ∧ a < 0xf0 ∧ sc a b = true ∧ tl c = true) ∨
    (enc4 a b c d = 4 ∧ 0xf0 ≤ a ∧ a < 0xf5 ∧ sc a b = true ∧ tl c = true ∧ tl d = true) := by
  unfold enc4
  by_cases h1 : a < 0x80
  · simp [h1]
  by_cases h2 : a < 0xc2
  · simp [h1, h2]
  by_cases h3 : a < 0xe0
  · cases hb : tl b <;> simp [h1, h2, h3] <;> omega
  by_cases h4 : a < 0xf0
  · cases hb : sc a b <;> cases hc : tl c <;> simp [h1, h2, h3, h4] <;> omega
  by_cases h5 : a < 0xf5
  · cases hb : sc a b <;> cases hc : tl c <;> cases hd : tl d <;> simp [h1, h2, h3, h4, h5] <;> omega
  · simp [h1, h2, h3, h4, h5]
theorem encLen_le4 (l : List UInt8) : encLen l ≤ 4 := by
  unfold encLen; split
  · omega
  · rcases enc4_cases (gb l 0) (gb l 1) (gb l 2) (gb l 3) with h | ⟨h, _⟩ | ⟨h, _⟩ | ⟨h, _⟩ | ⟨h, _⟩ <;> omega
theorem sc_tl {a x : Int} (h : sc a x = true) : tl x = true := by rw [sc_iff] at h; rw [tl_iff]; exact h.1
theorem encLen_le (l : List UInt8) : encLen l ≤ l.length := by
  unfold encLen; split
  · omega
  · rcases enc4_cases (gb l 0) (gb l 1) (gb l 2) (gb l 3) with h | ⟨h, _⟩ | ⟨h, _, _, h2⟩ | ⟨h, _, _, h1, h2⟩ | ⟨h, _, _, h1, h2, h3⟩
    · omega
    · omega
    · have := tl_len h2; omega
    · have := tl_len h2; omega
    · have := tl_len h3; omega
theorem stepW_pos (l : List UInt8) : 0 < stepW l := by unfold stepW; split <;> omega
theorem stepW_le (l : List UInt8) (h : 0 < l.length) : stepW l ≤ l.length := by
  unfold stepW; split
  · omega
  · exact encLen_le l
theorem stepW_le4 (l : List UInt8) : stepW l ≤ 4 := by
  unfold stepW; split
  · omega
  · exact encLen_le4 l

/-! ### the model's own decoding -/
theorem get_bs (l : List UInt8) (i : Nat) : ((bs l).get! i).toNat = (gb l i).toNat := by
  unfold gb
  rw [Int.toNat_natCast]
  congr 1
  show (l.toArray)[i]! = _
  rw [Array.getElem!_eq_getD, Array.getD_eq_getD_getElem?, List.getElem?_toArray, List.getD_eq_getElem?_getD]
  rfl
set_option maxHeartbeats 4000000 in
theorem decode_bs (l : List UInt8) (i : Nat) (h : i < l.length) : Utf8.decode (bs l) i = ((runeOf (l.drop i)).toNat, stepW (l.drop i)) := by
  rw [Lib.decode_at, bs_size, get_bs, get_bs, get_bs, get_bs]
  have e0 : gb l i = gb (l.drop i) 0 := by rw [gb_drop]; rfl
  have e1 : gb l (i + 1) = gb (l.drop i) 1 := by rw [gb_drop]
  have e2 : gb l (i + 2) = gb (l.drop i) 2 := by rw [gb_drop]
  have e3 : gb l (i + 3) = gb (l.drop i) 3 := by rw [gb_drop]
  have hl : l.length - i = (l.drop i).length := by simp
  rw [e0, e1, e2, e3, hl]
  have hpos : 0 < (l.drop i).length := by rw [← hl]; omega
  clear e0 e1 e2 e3 hl
  generalize l.drop i = m at *
  have r0 := gb_lo m 0; have r0' := gb_hi m 0
  have r1 := gb_lo m 1; have r1' := gb_hi m 1
  have r2 := gb_lo m 2; have r2' := gb_hi m 2
  have r3 := gb_lo m 3; have r3' := gb_hi m 3
  have hE : encLen m = enc4 (gb m 0) (gb m 1) (gb m 2) (gb m 3) := by unfold encLen; rw [if_neg (by omega)]
  have o1 : ¬ (1 < m.length) → gb m 1 = 0 := fun h => gb_out m 1 (by omega)
  have o2 : ¬ (2 < m.length) → gb m 2 = 0 := fun h => gb_out m 2 (by omega)
  have o3 : ¬ (3 < m.length) → gb m 3 = 0 := fun h => gb_out m 3 (by omega)
  have hc := enc4_cases (gb m 0) (gb m 1) (gb m 2) (gb m 3)
  unfold runeOf stepW
  rw [hE]
  generalize gb m 0 = a at *
  generalize gb m 1 = b at *
  generalize gb m 2 = c at *
  generalize gb m 3 = d at *
  obtain ⟨a, rfl⟩ := Int.eq_ofNat_of_zero_le r0
  obtain ⟨b, rfl⟩ := Int.eq_ofNat_of_zero_le r1
  obtain ⟨c, rfl⟩ := Int.eq_ofNat_of_zero_le r2
  obtain ⟨d, rfl⟩ := Int.eq_ofNat_of_zero_le r3
  simp only [Int.toNat_natCast]
  clear hE
  have key : ∀ (n : Nat) (v : Nat), enc4 a b c d = n → Lib.decodeN m.length a b c d = (v, if n = 0 then 1 else n) →
      ((match n with | 1 => (a : Int) | 2 => (a : Int) % 32 * 64 + (b : Int) % 64 | 3 => ((a : Int) % 16 * 64 + (b : Int) % 64) * 64 + (c : Int) % 64 | 4 => (((a : Int) % 8 * 64 + (b : Int) % 64) * 64 + (c : Int) % 64) * 64 + (d : Int) % 64 | _ => 0xfffd) : Int).toNat = v →
      Lib.decodeN m.length a b c d = (((match enc4 a b c d with | 1 => (a : Int) | 2 => (a : Int) % 32 * 64 + (b : Int) % 64 | 3 => ((a : Int) % 16 * 64 + (b : Int) % 64) * 64 + (c : Int) % 64 | 4 => (((a : Int) % 8 * 64 + (b : Int) % 64) * 64 + (c : Int) % 64) * 64 + (d : Int) % 64 | _ => 0xfffd) : Int).toNat, if enc4 a b c d = 0 then 1 else enc4 a b c d) := by
    intro n v h1 h2 h3; rw [h1, h2, h3]
  by_cases h1 : a < 128
  · refine key 1 a ?_ ?_ (by simp)
    · unfold enc4; rw [if_pos (by omega)]
    · unfold Lib.decodeN; rw [if_pos h1]; rfl
  by_cases h2 : a < 194
  · refine key 0 65533 ?_ ?_ (by simp)
    · unfold enc4; rw [if_neg (by omega), if_pos (by omega)]
    · unfold Lib.decodeN; (repeat' split) <;> first | rfl | (exfalso; omega)
  by_cases h3 : a < 224
  · by_cases ht : 128 ≤ b ∧ b < 192
    · have hb : tl (b : Int) = true := by rw [tl_iff]; omega
      have := tl_iff.1 hb
      refine key 2 (a % 32 * 64 + b % 64) ?_ ?_ (by show ((a : Int) % 32 * 64 + (b : Int) % 64).toNat = _; omega)
      · unfold enc4; rw [if_neg (by omega), if_neg (by omega), if_pos (by omega), if_pos hb]
      · unfold Lib.decodeN; (repeat' split) <;> first | rfl | (exfalso; omega)
    · have hb : ¬ tl (b : Int) = true := by rw [tl_iff]; omega
      refine key 0 65533 ?_ ?_ (by simp)
      · unfold enc4; rw [if_neg (by omega), if_neg (by omega), if_pos (by omega), if_neg hb]
      · unfold Lib.decodeN; (repeat' split) <;> first | rfl | (exfalso; omega)
  by_cases h4 : a < 240
  · by_cases ht : sc (a : Int) b = true ∧ tl (c : Int) = true
    · have hs := sc_iff.1 ht.1
      have hc := tl_iff.1 ht.2
      refine key 3 (a % 16 * 4096 + b % 64 * 64 + c % 64) ?_ ?_ (by show (((a : Int) % 16 * 64 + (b : Int) % 64) * 64 + (c : Int) % 64).toNat = _; omega)
      · unfold enc4; rw [if_neg (by omega), if_neg (by omega), if_neg (by omega), if_pos (by omega), ht.1, ht.2]; rfl
      · unfold Lib.decodeN; rw [if_neg (by omega), if_neg (by omega), if_pos (by omega), if_pos (by omega)]; rfl
    · have hb : (sc (a : Int) b && tl (c : Int)) = false := by
        cases h1 : sc (a : Int) b <;> cases h2 : tl (c : Int) <;> first | rfl | exact absurd ⟨h1, h2⟩ ht
      have hn : ¬ (((0x80 ≤ (b : Int) ∧ (b : Int) < 0xc0) ∧ ((a : Int) = 0xe0 → 0xa0 ≤ (b : Int)) ∧ ((a : Int) = 0xed → (b : Int) < 0xa0) ∧ ((a : Int) = 0xf0 → 0x90 ≤ (b : Int)) ∧ ((a : Int) = 0xf4 → (b : Int) < 0x90)) ∧ (0x80 ≤ (c : Int) ∧ (c : Int) < 0xc0)) := by
        rw [← sc_iff, ← tl_iff]; exact ht
      refine key 0 65533 ?_ ?_ (by simp)
      · unfold enc4; rw [if_neg (by omega), if_neg (by omega), if_neg (by omega), if_pos (by omega), hb]; rfl
      · unfold Lib.decodeN; (repeat' split) <;> first | rfl | (exfalso; omega)
  by_cases h5 : a < 245
  · by_cases ht : (sc (a : Int) b = true ∧ tl (c : Int) = true) ∧ tl (d : Int) = true
    · have hs := sc_iff.1 ht.1.1
      have hc := tl_iff.1 ht.1.2
      have hd := tl_iff.1 ht.2
      refine key 4 (a % 8 * 262144 + b % 64 * 4096 + c % 64 * 64 + d % 64) ?_ ?_ (by show ((((a : Int) % 8 * 64 + (b : Int) % 64) * 64 + (c : Int) % 64) * 64 + (d : Int) % 64).toNat = _; omega)
      · unfold enc4; rw [if_neg (by omega), if_neg (by omega), if_neg (by omega), if_neg (by omega), if_pos (by omega), ht.1.1, ht.1.2, ht.2]; rfl
      · unfold Lib.decodeN; rw [if_neg (by omega), if_neg (by omega), if_neg (by omega), if_pos (by omega), if_pos (by omega)]; rfl
    · have hb : (sc (a : Int) b && tl (c : Int) && tl (d : Int)) = false := by
        cases h1 : sc (a : Int) b <;> cases h2 : tl (c : Int) <;> cases h3 : tl (d : Int) <;> first | rfl | exact absurd ⟨⟨h1, h2⟩, h3⟩ ht
      have hn : ¬ ((((0x80 ≤ (b : Int) ∧ (b : Int) < 0xc0) ∧ ((a : Int) = 0xe0 → 0xa0 ≤ (b : Int)) ∧ ((a : Int) = 0xed → (b : Int) < 0xa0) ∧ ((a : Int) = 0xf0 → 0x90 ≤ (b : Int)) ∧ ((a : Int) = 0xf4 → (b : Int) < 0x90)) ∧ (0x80 ≤ (c : Int) ∧ (c : Int) < 0xc0)) ∧ (0x80 ≤ (d : Int) ∧ (d : Int) < 0xc0)) := by
        rw [← sc_iff, ← tl_iff, ← tl_iff]; exact ht
      refine key 0 65533 ?_ ?_ (by simp)
      · unfold enc4; rw [if_neg (by omega), if_neg (by omega), if_neg (by omega), if_neg (by omega), if_pos (by omega), hb]; rfl
      · unfold Lib.decodeN; (repeat' split) <;> first | rfl | (exfalso; omega)
  · refine key 0 65533 ?_ ?_ (by simp)
    · unfold enc4; rw [if_neg (by omega), if_neg (by omega), if_neg (by omega), if_neg (by omega), if_neg (by omega)]
    · unfold Lib.decodeN; (repeat' split) <;> first | rfl | (exfalso; omega)
end Go.Proofs.YtliphfgiaioebaaDoor
