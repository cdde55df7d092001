/-
  More on single steps: the rune's range, its own encoding's length, the rune FFFD.
-/
import Derived.Test.YtliphfgiaioebaaDoorPlain1
import Derived.Laws.Strings
namespace Go.Proofs.YtliphfgiaioebaaDoor
set_option linter.unusedVariables false
set_option linter.unusedSimpArgs false

theorem runeOf_0 {l : List UInt8} (h : encLen l = 0) : runeOf l = 0xfffd := by unfold runeOf; rw [h]; rfl
theorem runeOf_1 {l : List UInt8} (h : encLen l = 1) : runeOf l = gb l 0 := by unfold runeOf; rw [h]; rfl
theorem runeOf_2 {l : List UInt8} (h : encLen l = 2) : runeOf l = gb l 0 % 32 * 64 + gb l 1 % 64 := by unfold runeOf; rw [h]; rfl
theorem runeOf_3 {l : List UInt8} (h : encLen l = 3) : runeOf l = (gb l 0 % 16 * 64 + gb l 1 % 64) * 64 + gb l 2 % 64 := by unfold runeOf; rw [h]; rfl
theorem runeOf_4 {l : List UInt8} (h : encLen l = 4) : runeOf l = ((gb l 0 % 8 * 64 + gb l 1 % 64) * 64 + gb l 2 % 64) * 64 + gb l 3 % 64 := by unfold runeOf; rw [h]; rfl

/-- an encoding, by its length: what its bytes are -/
theorem encLen_cases (l : List UInt8) :
    encLen l = 0 ∨ (encLen l = 1 ∧ 0 < l.length ∧ gb l 0 < 0x80) ∨ (encLen l = 2 ∧ 1 < l.length ∧ 0xc2 ≤ gb l 0 ∧ gb l 0 < 0xe0 ∧ tl (gb l 1) = true) ∨
    (encLen l = 3 ∧ 2 < l.length ∧ 0xe0 ≤ gb l 0 ∧ gb l 0 < 0xf0 ∧ sc (gb l 0) (gb l 1) = true ∧ tl (gb l 2) = true) ∨
    (encLen l = 4 ∧ 3 < l.length ∧ 0xf0 ≤ gb l 0 ∧ gb l 0 < 0xf5 ∧ sc (gb l 0) (gb l 1) = true ∧ tl (gb l 2) = true ∧ tl (gb l 3) = true) := by
  have hle := encLen_le l
  by_cases h0 : l.length = 0
  · left; omega
  have hE : encLen l = enc4 (gb l 0) (gb l 1) (gb l 2) (gb l 3) := by unfold encLen; rw [if_neg h0]
  rw [hE] at hle ⊢
  rcases enc4_cases (gb l 0) (gb l 1) (gb l 2) (gb l 3) with h | ⟨h, r⟩ | ⟨h, r⟩ | ⟨h, r⟩ | ⟨h, r⟩
  · exact .inl h
  · exact .inr (.inl ⟨h, by omega, r⟩)
  · exact .inr (.inr (.inl ⟨h, by omega, r⟩))
  · exact .inr (.inr (.inr (.inl ⟨h, by omega, r⟩)))
  · exact .inr (.inr (.inr (.inr ⟨h, by omega, r⟩)))
theorem runeOf_r (l : List UInt8) : 0 ≤ runeOf l ∧ runeOf l ≤ 0x10ffff := by
  have r0 := gb_lo l 0; have r0' := gb_hi l 0
  rcases encLen_cases l with h | ⟨h, _, r⟩ | ⟨h, _, r1, r2, r3⟩ | ⟨h, _, r1, r2, r3, r4⟩ | ⟨h, _, r1, r2, r3, r4, r5⟩
  · rw [runeOf_0 h]; omega
  · rw [runeOf_1 h]; omega
  · rw [runeOf_2 h]; omega
  · rw [runeOf_3 h]; omega
  · rw [runeOf_4 h]; have := sc_iff.1 r3; omega
/-- the rune is above FFFF just where the encoding has four bytes -/
theorem runeOf_big (l : List UInt8) : 0xffff < runeOf l ↔ encLen l = 4 := by
  have r0 := gb_lo l 0; have r0' := gb_hi l 0
  rcases encLen_cases l with h | ⟨h, _, r⟩ | ⟨h, _, r1, r2, r3⟩ | ⟨h, _, r1, r2, r3, r4⟩ | ⟨h, _, r1, r2, r3, r4, r5⟩
  · rw [runeOf_0 h]; omega
  · rw [runeOf_1 h]; omega
  · rw [runeOf_2 h]; omega
  · rw [runeOf_3 h]; omega
  · rw [runeOf_4 h]; have := sc_iff.1 r3; omega
theorem encode_size (l : List UInt8) (h0 : encLen l ≠ 0) : (Utf8.encode (runeOf l)).size = encLen l := by
  have r0 := gb_lo l 0; have r0' := gb_hi l 0
  have hv : Utf8.valid (runeOf l) = true := by
    have hr := runeOf_r l
    have : runeOf l < 0xD800 ∨ 0xE000 ≤ runeOf l := by
      rcases encLen_cases l with h | ⟨h, _, r⟩ | ⟨h, _, r1, r2, r3⟩ | ⟨h, _, r1, r2, r3, r4⟩ | ⟨h, _, r1, r2, r3, r4, r5⟩
      · omega
      · rw [runeOf_1 h]; omega
      · rw [runeOf_2 h]; omega
      · rw [runeOf_3 h]; have := sc_iff.1 r3; omega
      · rw [runeOf_4 h]; have := sc_iff.1 r3; omega
    unfold Utf8.valid
    simp only [Bool.or_eq_true, Bool.and_eq_true, decide_eq_true_eq]
    omega
  unfold Utf8.encode
  rw [hv]
  simp only [if_true]
  rcases encLen_cases l with h | ⟨h, _, r⟩ | ⟨h, _, r1, r2, r3⟩ | ⟨h, _, r1, r2, r3, r4⟩ | ⟨h, _, r1, r2, r3, r4, r5⟩
  · omega
  · have e := runeOf_1 h
    rw [if_pos (by omega), h]; rfl
  · have e := runeOf_2 h
    rw [if_neg (by omega), if_pos (by omega), h]; rfl
  · have e := runeOf_3 h
    have := sc_iff.1 r3
    rw [if_neg (by omega), if_neg (by omega), if_pos (by omega), h]; rfl
  · have e := runeOf_4 h
    have := sc_iff.1 r3
    rw [if_neg (by omega), if_neg (by omega), if_neg (by omega), h]; rfl
theorem gb_take3 (l : List UInt8) (h : 3 ≤ l.length) : l.take 3 = [239, 191, 189] ↔ gb l 0 = 239 ∧ gb l 1 = 191 ∧ gb l 2 = 189 := by
  match l, h with
  | a :: b :: c :: r, _ =>
    have e0 : gb (a :: b :: c :: r) 0 = (a.toNat : Int) := rfl
    have e1 : gb (a :: b :: c :: r) 1 = (b.toNat : Int) := rfl
    have e2 : gb (a :: b :: c :: r) 2 = (c.toNat : Int) := rfl
    rw [e0, e1, e2]
    simp only [List.take_succ_cons, List.take_zero, List.cons.injEq, and_true]
    have k : ∀ (x : UInt8) (n : Nat), n < 256 → (x = UInt8.ofNat n ↔ (x.toNat : Int) = (n : Int)) := fun x n hn => by
      rw [← UInt8.toNat_inj, UInt8.toNat_ofNat_of_lt' (by simpa using hn)]; omega
    have k0 := k a 239 (by omega); have k1 := k b 191 (by omega); have k2 := k c 189 (by omega)
    exact ⟨fun ⟨x, y, z⟩ => ⟨k0.1 x, k1.1 y, k2.1 z⟩, fun ⟨x, y, z⟩ => ⟨k0.2 x, k1.2 y, k2.2 z⟩⟩
theorem fffd_len (l : List UInt8) (h : runeOf l = 0xfffd) (h0 : encLen l ≠ 0) : encLen l = 3 := by
  have r0 := gb_lo l 0; have r0' := gb_hi l 0
  rcases encLen_cases l with h1 | ⟨h1, _, r⟩ | ⟨h1, _, r1, r2, r3⟩ | ⟨h1, _, r1, r2, r3, r4⟩ | ⟨h1, _, r1, r2, r3, r4, r5⟩
  · omega
  · rw [runeOf_1 h1] at h; omega
  · rw [runeOf_2 h1] at h; omega
  · exact h1
  · rw [runeOf_4 h1] at h; have := sc_iff.1 r3; omega
theorem bs_extract (l : List UInt8) (a b : Nat) : (bs l).extract a b = bs ((l.take b).drop a) := by
  unfold bs
  apply ByteArray.ext
  rw [ByteArray.data_extract]
  simp [List.extract_toArray, List.extract_eq_take_drop, List.drop_take]
theorem bs_toList' (l : List UInt8) : (bs l).toList = l := by
  rw [ByteArray.toList_eq]; simp [bs]
/-- of the rune FFFD: it is whole just where the list begins with its encoding -/
theorem fffd (l : List UInt8) (h : runeOf l = 0xfffd) : encLen l ≠ 0 ↔ (3 ≤ l.length ∧ l.take 3 = [239, 191, 189]) := by
  have r0 := gb_lo l 0; have r0' := gb_hi l 0
  constructor
  · intro h0
    rcases encLen_cases l with h1 | ⟨h1, _, r⟩ | ⟨h1, _, r1, r2, r3⟩ | ⟨h1, _, r1, r2, r3, r4⟩ | ⟨h1, _, r1, r2, r3, r4, r5⟩
    · omega
    · rw [runeOf_1 h1] at h; omega
    · rw [runeOf_2 h1] at h; omega
    · rw [runeOf_3 h1] at h
      have s := sc_iff.1 r3
      have t := tl_iff.1 r4
      exact ⟨by omega, (gb_take3 l (by omega)).2 (by omega)⟩
    · rw [runeOf_4 h1] at h; have := sc_iff.1 r3; omega
  · rintro ⟨hl, ht⟩
    obtain ⟨e0, e1, e2⟩ := (gb_take3 l hl).1 ht
    unfold encLen
    rw [if_neg (by omega), e0, e1, e2]
    simp [enc4, sc, tl]
theorem encLen_congr {l m : List UInt8} (h0 : l.length = 0 ↔ m.length = 0) (h : ∀ i, i < 4 → gb l i = gb m i) : encLen l = encLen m := by
  unfold encLen
  rw [h 0 (by omega), h 1 (by omega), h 2 (by omega), h 3 (by omega)]
  by_cases e : l.length = 0
  · rw [if_pos e, if_pos (h0.1 e)]
  · rw [if_neg e, if_neg (fun h => e (h0.2 h))]
theorem runeOf_congr {l m : List UInt8} (h0 : l.length = 0 ↔ m.length = 0) (h : ∀ i, i < 4 → gb l i = gb m i) : runeOf l = runeOf m := by
  unfold runeOf
  rw [encLen_congr h0 h, h 0 (by omega), h 1 (by omega), h 2 (by omega), h 3 (by omega)]
theorem encLen_take4 (l : List UInt8) (k : Nat) (hk : 4 ≤ k) : encLen (l.take k) = encLen l :=
  encLen_congr (by rw [List.length_take]; omega) (fun i hi => gb_take l k i (by omega))
theorem runeOf_take4 (l : List UInt8) (k : Nat) (hk : 4 ≤ k) : runeOf (l.take k) = runeOf l :=
  runeOf_congr (by rw [List.length_take]; omega) (fun i hi => gb_take l k i (by omega))
end Go.Proofs.YtliphfgiaioebaaDoor
